/- KeyOne, in plain lists: what is written in bytes of seven bits can be read again. -/
import Derived.Test.YtppfkbigeknedaaStatKeyOne
import Derived.Test.YtppfkbigeknedaaLeastLaws
namespace Go.Proofs.Ytppfkbigeknedaa.Q
open Go.RowKit Go.Proofs.YtppfkbigeknedaaW.PrintWords
set_option linter.unusedVariables false
set_option linter.unusedSimpArgs false
theorem vnt_inj : ∀ (d : Nat) (n m : Int) (r s : List Int), 0 ≤ n → n < 128 ^ (d + 1) → 0 ≤ m → m < 128 ^ (d + 1) → vnt d n ++ r = vnt d m ++ s → n = m ∧ r = s
  | 0, n, m, r, s, _, _, _, _, h => by simpa [vnt] using h
  | d + 1, n, m, r, s, hn, hn', hm, hm', h => by
    have e128 : (128 : Int) ^ (d + 1 + 1) = 128 ^ (d + 1) * 128 := by rw [Int.pow_succ]
    rw [e128] at hn' hm'
    unfold vnt at h
    by_cases h1 : n ≥ 128 <;> by_cases h2 : m ≥ 128
    · rw [if_pos h1, if_pos h2] at h
      simp only [List.cons_append, List.cons.injEq] at h
      obtain ⟨a, b⟩ := vnt_inj d (n / 128) (m / 128) r s (by omega) (Int.ediv_lt_of_lt_mul (by omega) hn') (by omega) (Int.ediv_lt_of_lt_mul (by omega) hm') h.2
      exact ⟨by omega, b⟩
    · rw [if_pos h1, if_neg h2] at h
      simp only [List.cons_append, List.cons.injEq] at h
      omega
    · rw [if_neg h1, if_pos h2] at h
      simp only [List.cons_append, List.cons.injEq] at h
      omega
    · rw [if_neg h1, if_neg h2] at h
      simpa using h
theorem vnt_bytes : ∀ (d : Nat) (n : Int), 0 ≤ n → n < 128 ^ (d + 1) → ∀ x ∈ vnt d n, 0 ≤ x ∧ x ≤ 255
  | 0, n, h0, h1, x, hx => by
    simp only [vnt, List.mem_singleton] at hx
    subst hx
    exact ⟨h0, by simp at h1; omega⟩
  | d + 1, n, h0, h1, x, hx => by
    have e128 : (128 : Int) ^ (d + 1 + 1) = 128 ^ (d + 1) * 128 := by rw [Int.pow_succ]
    rw [e128] at h1
    unfold vnt at hx
    split at hx
    · rcases List.mem_cons.1 hx with rfl | hx
      · omega
      · exact vnt_bytes d (n / 128) (by omega) (Int.ediv_lt_of_lt_mul (by omega) h1) x hx
    · simp only [List.mem_singleton] at hx
      omega
theorem puts_inj : ∀ (a b : List Int), (∀ x ∈ a, inU x) → (∀ x ∈ b, inU x) → puts a = puts b → a = b
  | [], [], _, _, _ => rfl
  | [], y :: b, _, hb, h => by
    exfalso
    have : (vnt 9 y).length ≥ 1 := by unfold vnt; split <;> simp
    have := congrArg List.length h
    simp only [puts, List.flatMap_cons, List.length_append, List.flatMap_nil, List.length_nil] at this
    omega
  | x :: a, [], ha, _, h => by
    exfalso
    have : (vnt 9 x).length ≥ 1 := by unfold vnt; split <;> simp
    have := congrArg List.length h
    simp only [puts, List.flatMap_cons, List.length_append, List.flatMap_nil, List.length_nil] at this
    omega
  | x :: a, y :: b, ha, hb, h => by
    have hx := ha x (by simp)
    have hy := hb y (by simp)
    have h' : vnt 9 x ++ puts a = vnt 9 y ++ puts b := by simpa [puts] using h
    obtain ⟨e, h2⟩ := vnt_inj 9 x y (puts a) (puts b) hx.1 (by rw [pow10]; have := hx.2; omega) hy.1 (by rw [pow10]; have := hy.2; omega) h'
    subst e
    rw [puts_inj a b (fun z hz => ha z (by simp [hz])) (fun z hz => hb z (by simp [hz])) h2]
theorem puts_bytes (l : List Int) (h : ∀ x ∈ l, inU x) : ∀ x ∈ puts l, 0 ≤ x ∧ x ≤ 255 := by
  intro x hx
  obtain ⟨n, hn, hx⟩ := List.mem_flatMap.1 hx
  exact vnt_bytes 9 n (h n hn).1 (by rw [pow10]; have := (h n hn).2; omega) x hx
theorem bytes_list_inj : ∀ (a b : List Int), (∀ x ∈ a, 0 ≤ x ∧ x ≤ 255) → (∀ x ∈ b, 0 ≤ x ∧ x ≤ 255) → a.map (fun n => UInt8.ofNat n.toNat) = b.map (fun n => UInt8.ofNat n.toNat) → a = b
  | [], [], _, _, _ => rfl
  | [], _ :: _, _, _, h => by simp at h
  | _ :: _, [], _, _, h => by simp at h
  | x :: a, y :: b, ha, hb, h => by
    simp only [List.map_cons, List.cons.injEq] at h
    have hx := ha x (by simp)
    have hy := hb y (by simp)
    have e : x = y := by
      have := congrArg UInt8.toNat h.1
      simp only [UInt8.toNat_ofNat'] at this
      omega
    rw [e, bytes_list_inj a b (fun z hz => ha z (by simp [hz])) (fun z hz => hb z (by simp [hz])) h.2]
theorem W_inj {a b : Int} (ha : okI .i64 a) (hb : okI .i64 b) (h : W a = W b) : a = b := by
  have := Go.bounds_i64 ha
  have := Go.bounds_i64 hb
  unfold W at h
  rw [IntKind.wrap_u64, IntKind.wrap_u64] at h
  omega
theorem pod_ext {p q : S70} (h0 : p.f0 = q.f0) (h1 : p.f1 = q.f1) (h2 : p.f2 = q.f2) (h3 : p.f3.f0 = q.f3.f0) (h4 : p.f3.f1 = q.f3.f1) (h5 : p.f3.f2 = q.f3.f2) (h6 : p.f3.f3 = q.f3.f3) (h7 : p.f4 = q.f4) : p = q := by
  obtain ⟨a, b, c, ⟨d, e, f, g⟩, i⟩ := p
  obtain ⟨a', b', c', ⟨d', e', f', g'⟩, i'⟩ := q
  simp only at h0 h1 h2 h3 h4 h5 h6 h7
  subst h0 h1 h2 h3 h4 h5 h6 h7
  rfl
theorem podNums_inj {p q : S70} (hp : ok70 p) (hq : ok70 q) (h : podNums p = podNums q) : p = q := by
  simp only [podNums, List.cons.injEq, and_true] at h
  obtain ⟨h0, h1, h2, h3, h4, h5, h6, h7⟩ := h
  obtain ⟨p0, p1, p2, _, p4⟩ := hp
  obtain ⟨q0, q1, q2, _, q4⟩ := hq
  exact pod_ext (W_inj p0 q0 h0) (W_inj p1 q1 h1) (W_inj p2 q2 h2) h3 h4 h5 h6 (W_inj p4 q4 h7)
theorem flat_inj : ∀ (a b : List S70) (r s : List Int), (∀ p ∈ a, ok70 p) → (∀ p ∈ b, ok70 p) → a.length = b.length → a.flatMap podNums ++ r = b.flatMap podNums ++ s → a = b ∧ r = s
  | [], [], r, s, _, _, _, h => ⟨rfl, by simpa using h⟩
  | [], _ :: _, _, _, _, _, hl, _ => by simp at hl
  | _ :: _, [], _, _, _, _, hl, _ => by simp at hl
  | p :: a, q :: b, r, s, ha, hb, hl, h => by
    simp only [List.flatMap_cons, List.append_assoc] at h
    obtain ⟨h1, h2⟩ := List.append_inj h (by simp [podNums])
    obtain ⟨e, f⟩ := flat_inj a b r s (fun z hz => ha z (by simp [hz])) (fun z hz => hb z (by simp [hz])) (by simpa using hl) h2
    exact ⟨by rw [podNums_inj (ha p (by simp)) (hb q (by simp)) h1, e], f⟩
theorem key_inj (a b : List S70) (x y u v : Int) (ha : ∀ p ∈ a, ok70 p) (hb : ∀ p ∈ b, ok70 p) (hla : a.length ≤ 1000) (hlb : b.length ≤ 1000) (hx : okI .i64 x) (hy : okI .i64 y) (hu : okI .i64 u) (hv : okI .i64 v)
    (h : (keyOf a x y).toList = (keyOf b u v).toList) : a = b ∧ x = u ∧ y = v := by
  unfold keyOf strOfNums at h
  rw [ByteArray.toList_eq, ByteArray.toList_eq] at h
  simp only at h
  have h1 := bytes_list_inj _ _ (puts_bytes _ (nums_in a x y ha)) (puts_bytes _ (nums_in b u v hb)) h
  have h2 := puts_inj _ _ (nums_in a x y ha) (nums_in b u v hb) h1
  simp only [nums, List.cons_append, List.nil_append, List.cons.injEq] at h2
  have hl : a.length = b.length := by
    have := h2.1
    unfold W at this
    rw [IntKind.wrap_u64, IntKind.wrap_u64] at this
    omega
  obtain ⟨e, f⟩ := flat_inj a b [W x, W y] [W u, W v] ha hb hl h2.2
  simp only [List.cons.injEq, and_true] at f
  exact ⟨e, W_inj hx hu f.1, W_inj hy hv f.2⟩
theorem ne_pod (p q : S70) : (!(p.f0 == q.f0) || (!(p.f1 == q.f1) || (!(p.f2 == q.f2) || ((!(p.f3.f0 == q.f3.f0) || (!(p.f3.f1 == q.f3.f1) || (!(p.f3.f2 == q.f3.f2) || (!(p.f3.f3 == q.f3.f3))))) || (!(p.f4 == q.f4)))))) = true ↔ p ≠ q := by
  constructor
  · intro h e
    subst e
    simp at h
  · intro h
    cases hb : (!(p.f0 == q.f0) || (!(p.f1 == q.f1) || (!(p.f2 == q.f2) || ((!(p.f3.f0 == q.f3.f0) || (!(p.f3.f1 == q.f3.f1) || (!(p.f3.f2 == q.f3.f2) || (!(p.f3.f3 == q.f3.f3))))) || (!(p.f4 == q.f4)))))) with
    | true => rfl
    | false =>
      exfalso
      simp only [Bool.or_eq_false_iff, Bool.not_eq_false', beq_iff_eq] at hb
      obtain ⟨h0, h1, h2, ⟨h3, h4, h5, h6⟩, h7⟩ := hb
      exact h (pod_ext h0 h1 h2 h3 h4 h5 h6 h7)
theorem equal0 (a b : List S70) (hl : a.length = b.length) (hbig : a.length ≤ 1000) : ∀ (m : Nat) (i : Int), 0 ≤ i → i + m = a.length → ∃ r : Bool, (r = true ↔ a.drop i.toNat = b.drop i.toNat) ∧ Ev (fun k => api_Pod_82.l0 k a b (a.length : Int) i) r
  | 0, i, h0, hm => by
    refine ⟨true, by simp [List.drop_of_length_le (show a.length ≤ i.toNat by omega), List.drop_of_length_le (show b.length ≤ i.toNat by omega)], Ev.step (f := fun _ => some true) (fun k => ?_) (Ev.now _)⟩
    simp only [api_Pod_82.l0]
    rw [if_neg (by omega)]
  | m + 1, i, h0, hm => by
    have hw : wrap64 (i + 1) = i + 1 := by unfold wrap64; omega
    obtain ⟨p, r, e1, e2, e3, e4⟩ := rd70 a i h0 (by omega)
    obtain ⟨q, s, f1, f2, f3, f4⟩ := rd70 b i h0 (by omega)
    obtain ⟨ans, hans, hev⟩ := equal0 a b hl hbig m (i + 1) (by omega) (by omega)
    by_cases hpq : p = q
    · refine ⟨ans, ?_, Ev.step (f := fun k => api_Pod_82.l0 k a b (a.length : Int) (i + 1)) (fun k => ?_) hev⟩
      · rw [hans, e2, f2, e3, f3, hpq]; simp
      · simp only [api_Pod_82.l0]
        rw [if_pos (by omega), if_pos h0, if_pos (by omega), if_pos (by omega), e1, f1, if_neg (by rw [ne_pod]; simpa using hpq), hw]
    · refine ⟨false, ?_, Ev.step (f := fun k => some false) (fun k => ?_) (Ev.now _)⟩
      · rw [e2, f2]; simp [hpq]
      · simp only [api_Pod_82.l0]
        rw [if_pos (by omega), if_pos h0, if_pos (by omega), if_pos (by omega), e1, f1, if_pos ((ne_pod p q).2 hpq)]
theorem same_eq (a b : List S70) (x y u v : Int) (hla : a.length ≤ 1000) : ∃ r : Bool, (r = true ↔ a = b ∧ x = u ∧ y = v) ∧ Ev (fun k => state_Same.f k a x y b u v) r := by
  by_cases hxu : x = u
  · by_cases hyv : y = v
    · by_cases hl : a.length = b.length
      · obtain ⟨r, hr, hev⟩ := equal0 a b hl hla a.length 0 (by omega) (by omega)
        refine ⟨r, by simpa [hxu, hyv] using hr, ?_⟩
        refine Ev.congr (f := fun k => (api_Pod_82.f k a b).bind fun t => some t) (fun k => ?_) (Ev.bind (Ev.congr (fun k => ?_) hev) (Ev.now _))
        · simp only [state_Same.f]; rw [if_pos hxu, if_pos hyv]
        · simp only [api_Pod_82.f]; rw [if_pos (by omega)]
      · refine ⟨false, ?_, ?_⟩
        · simp only [Bool.false_eq_true, false_iff]
          rintro ⟨rfl, _⟩
          exact hl rfl
        · refine Ev.congr (f := fun k => (api_Pod_82.f k a b).bind fun t => some t) (fun k => ?_) (Ev.bind (Ev.congr (f := fun _ => some false) (fun k => ?_) (Ev.now _)) (Ev.now _))
          · simp only [state_Same.f]; rw [if_pos hxu, if_pos hyv]
          · simp only [api_Pod_82.f]; rw [if_neg (by omega)]
    · refine ⟨false, by simp [hyv], Ev.congr (f := fun _ => some false) (fun k => ?_) (Ev.now _)⟩
      simp only [state_Same.f]; rw [if_pos hxu, if_neg hyv]
  · refine ⟨false, by simp [hxu], Ev.congr (f := fun _ => some false) (fun k => ?_) (Ev.now _)⟩
    simp only [state_Same.f]; rw [if_neg hxu]
theorem pureKeyOne : dunnagelaw17_KeyOne.Pure := by
  intro s t hs ht
  obtain ⟨⟨_, hs0⟩, hs1, hs2⟩ := hs
  obtain ⟨⟨_, ht0⟩, ht1, ht2⟩ := ht
  refine Ev.rounds (Ev.bind up17 ?_)
  have stop : ∀ c : Bool, c = true → Ev (fun k => dunnagelaw17_KeyOne.j0 k true c s.f0 s.f1 s.f2 t.f0 t.f1 t.f2) true := by
    intro c hc
    refine Ev.step (f := fun _ => some true) (fun k => ?_) (Ev.now _)
    simp only [dunnagelaw17_KeyOne.j0]
    rw [if_pos hc]
  by_cases h1 : (s.f0.length : Int) > 40
  · exact Ev.congr (fun k => if_pos h1) (stop true rfl)
  · refine Ev.congr (fun k => if_neg h1) ?_
    by_cases h2 : (t.f0.length : Int) > 40
    · exact stop _ (by simpa using h2)
    · have hk := key_eq s.f0 s.f1 s.f2 hs0 (by omega)
      have hq := key_eq t.f0 t.f1 t.f2 ht0 (by omega)
      obtain ⟨r, hr, hev⟩ := same_eq s.f0 t.f0 s.f1 s.f2 t.f1 t.f2 (by omega)
      have e : ((keyOf s.f0 s.f1 s.f2).toList == (keyOf t.f0 t.f1 t.f2).toList) = r := by
        rw [Bool.eq_iff_iff, hr, beq_iff_eq]
        constructor
        · exact key_inj _ _ _ _ _ _ hs0 ht0 (by omega) (by omega) hs1 hs2 ht1 ht2
        · rintro ⟨e1, e2, e3⟩
          rw [e1, e2, e3]
      refine Ev.step (f := fun k => (key_Of.f k s.f0 s.f1 s.f2).bind fun a => (key_Of.f k t.f0 t.f1 t.f2).bind fun b => (state_Same.f k s.f0 s.f1 s.f2 t.f0 t.f1 t.f2).bind fun c => some ((a.toList == b.toList) == c)) (fun k => ?_) (Ev.bind hk (Ev.bind hq (Ev.bind hev ?_)))
      · simp only [dunnagelaw17_KeyOne.j0]
        rw [if_neg (by simpa using h2), if_pos trivial]
      · refine Ev.congr (f := fun _ => some true) (fun k => ?_) (Ev.now _)
        rw [e]; simp
end Go.Proofs.Ytppfkbigeknedaa.Q
