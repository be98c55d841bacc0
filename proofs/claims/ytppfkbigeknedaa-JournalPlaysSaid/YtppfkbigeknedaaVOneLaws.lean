/- A number read from bytes, in plain lists: the program's and the document's; what was put is read again. -/
import Derived.Test.YtppfkbigeknedaaVPutLaws
import Derived.Test.YtppfkbigeknedaaVQwireone
import Derived.Test.YtppfkbigeknedaaVQdunnageref02one
namespace Go.Proofs.Ytppfkbigeknedaa.Q
open Go.RowKit Go.Proofs.YtppfkbigeknedaaW.PrintWords Go.Proofs.YtppfkbigeknedaaW.PrintMore
set_option linter.unusedVariables false
set_option linter.unusedSimpArgs false
def oneG : Nat → List Int → Option (Int × Nat)
  | _, [] => none
  | 0, x :: _ => if x ≤ 1 then some (x, 1) else none
  | d + 1, x :: r => if x < 128 then some (x, 1) else (oneG d r).bind fun p => if p.1 = 0 then none else some (x - 128 + 128 * p.1, p.2 + 1)
theorem oneG_more {d : Nat} {x : Int} {r : List Int} (h : ¬ x < 128) : oneG (d + 1) (x :: r) = (oneG d r).bind fun p => if p.1 = 0 then none else some (x - 128 + 128 * p.1, p.2 + 1) := by
  rw [oneG, if_neg h]
def isByte (x : Int) : Prop := 0 ≤ x ∧ x < 256
theorem oneG_bounds : ∀ (d : Nat) (b : List Int), (∀ x ∈ b, isByte x) → ∀ m l, oneG d b = some (m, l) → 0 ≤ m ∧ m < 2 * 128 ^ d ∧ 1 ≤ l ∧ l ≤ b.length
  | _, [], _, m, l, h => by simp [oneG] at h
  | 0, x :: r, hb, m, l, h => by
    have hx := hb x (by simp)
    unfold isByte at hx
    unfold oneG at h
    split at h
    · simp only [Option.some.injEq, Prod.mk.injEq] at h
      obtain ⟨rfl, rfl⟩ := h
      simp only [List.length_cons]
      refine ⟨hx.1, ?_, by omega, by omega⟩
      simp; omega
    · cases h
  | d + 1, x :: r, hb, m, l, h => by
    have hx := hb x (by simp)
    unfold isByte at hx
    have hp : (128 : Int) ^ (d + 1) = 128 ^ d * 128 := Int.pow_succ ..
    have hq : (0 : Int) < 128 ^ d := Int.pow_pos (by omega)
    unfold oneG at h
    split at h
    · simp only [Option.some.injEq, Prod.mk.injEq] at h
      obtain ⟨rfl, rfl⟩ := h
      simp only [List.length_cons]
      refine ⟨hx.1, ?_, by omega, by omega⟩
      rw [hp]; omega
    · obtain ⟨p, h1, h⟩ := Option.bind_eq_some_iff.1 h
      have ih := oneG_bounds d r (fun y hy => hb y (List.mem_cons_of_mem _ hy)) p.1 p.2 h1
      split at h
      · cases h
      · simp only [Option.some.injEq, Prod.mk.injEq] at h
        obtain ⟨rfl, rfl⟩ := h
        simp only [List.length_cons]
        refine ⟨by omega, ?_, by omega, by omega⟩
        rw [hp]; omega
theorem vnt_byte : ∀ (d : Nat) (n : Int), 0 ≤ n → n < 2 * 128 ^ d → ∀ x ∈ vnt d n, isByte x
  | 0, n, h0, h1, x, hx => by
    simp only [vnt, List.mem_cons, List.not_mem_nil, or_false] at hx
    subst hx
    simp at h1
    unfold isByte; omega
  | d + 1, n, h0, h1, x, hx => by
    have hp : (128 : Int) ^ (d + 1) = 128 ^ d * 128 := Int.pow_succ ..
    rw [hp] at h1
    unfold vnt at hx
    split at hx
    · rcases List.mem_cons.1 hx with rfl | hx
      · unfold isByte; omega
      · exact vnt_byte d (n / 128) (by omega) (by omega) x hx
    · simp only [List.mem_cons, List.not_mem_nil, or_false] at hx
      subst hx
      unfold isByte; omega
theorem pow9 : (2 : Int) * 128 ^ 9 = 18446744073709551616 := by decide
set_option maxRecDepth 100000 in
theorem andNot128 : ∀ m : Fin 256, (m.val &&& 18446744073709551487 : Nat) = m.val % 128 := by decide +kernel
theorem pow7 (j : Nat) : (2 : Nat) ^ (7 * j) = 128 ^ j := by rw [Nat.pow_mul]
theorem step_bits (acc x : Int) (j : Nat) (hj : j ≤ 9) (h0 : 0 ≤ acc) (h1 : acc < 128 ^ j) (hx : isByte x) (h2 : (x % 128) * 128 ^ j < 18446744073709551616) :
    Go.bits .or .u64 acc (shl .u64 (Go.bits .andNot .u64 x 128) (7 * (j : Int))) = acc + (x % 128) * 128 ^ j := by
  unfold isByte at hx
  have hpn : (0 : Int) < 128 ^ j := Int.pow_pos (by omega)
  have hle : (128 : Int) ^ j ≤ 128 ^ 9 := by
    have := Nat.pow_le_pow_right (n := 128) (by omega) hj
    exact_mod_cast this
  have h9 : (128 : Int) ^ 9 = 9223372036854775808 := by decide
  have e1 : Go.bits .andNot .u64 x 128 = x % 128 := by
    rw [u64_andNot x 128 (by omega) (by omega) (by omega) (by omega)]
    have := andNot128 ⟨x.toNat, by omega⟩
    simp only at this
    rw [show (18446744073709551615 - (128 : Int).toNat : Nat) = 18446744073709551487 from rfl, this]
    omega
  have hmx : 0 ≤ x % 128 := by omega
  have hmul : 0 ≤ (x % 128) * 128 ^ j := Int.mul_nonneg hmx (by omega)
  have e2 : shl .u64 (x % 128) (7 * (j : Int)) = (x % 128) * 128 ^ j := by
    unfold shl
    have hm : min (7 * (j : Int)).toNat IntKind.u64.bits = 7 * j := by
      have : (7 * (j : Int)).toNat = 7 * j := by omega
      rw [this]
      have : IntKind.u64.bits = 64 := rfl
      omega
    rw [hm, IntKind.wrap_u64]
    have : (2 : Int) ^ (7 * j) = 128 ^ j := by exact_mod_cast pow7 j
    rw [this]
    omega
  rw [e1, e2, u64_or acc _ h0 (by omega) hmul h2]
  have e3 : ((x % 128) * 128 ^ j).toNat = (x % 128).toNat <<< (7 * j) := by
    rw [Nat.shiftLeft_eq, pow7, Int.toNat_mul hmx (by omega)]
    congr 1
  have hlt : acc.toNat < 2 ^ (7 * j) := by
    rw [pow7]
    have : ((128 : Int) ^ j) = ((128 ^ j : Nat) : Int) := by push_cast; rfl
    rw [this] at h1
    omega
  rw [e3, Nat.or_comm, ← Nat.shiftLeft_add_eq_or_of_lt hlt, ← e3]
  omega
def oneRes (at_ j : Nat) (acc : Int) : Option (Int × Nat) → Int × Int × Bool
  | some (m, l) => if 0 < j ∧ m = 0 then (0, 0, false) else (acc + m * 128 ^ j, ((at_ + j + l : Nat) : Int), true)
  | none => (0, 0, false)
theorem rdN (b : List Int) (i : Nat) (x : Int) (r : List Int) (h : b.drop i = x :: r) : rd b (i : Int) = x ∧ i < b.length ∧ b.drop (i + 1) = r ∧ x ∈ b := by
  have hi : i < b.length := by
    rcases Nat.lt_or_ge i b.length with h1 | h1
    · exact h1
    · rw [List.drop_eq_nil_of_le h1] at h; cases h
  rw [List.drop_eq_getElem_cons hi] at h
  injection h with h1 h2
  exact ⟨by simp [rd, List.getElem?_eq_getElem hi, h1], hi, h2, h1 ▸ List.getElem_mem hi⟩
theorem w7 (j : Nat) (h : j ≤ 9) : wrap64 (7 * (j : Int) + 7) = 7 * ((j + 1 : Nat) : Int) := by unfold wrap64; omega
theorem lt9 (d j : Nat) (h : d + 1 + j = 9) : j + 1 ≤ 9 := by omega
theorem addl (a j l : Nat) : a + j + (l + 1) = a + (j + 1) + l := by omega
theorem le9 (d j : Nat) (h : d + 1 + j = 9) : j ≤ 9 := by omega
theorem gtj (a j : Nat) (h : 0 < j) : ((a + j : Nat) : Int) > (a : Int) := by omega
theorem ngtj (a j : Nat) (h : ¬ 0 < j) : ¬ ((a + j : Nat) : Int) > (a : Int) := by omega
theorem ne63 (d j : Nat) (h : d + 1 + j = 9) : ¬ 7 * (j : Int) = 63 := by omega
theorem wone0 (b : List Int) (hb : ∀ x ∈ b, isByte x) (hl : b.length ≤ 1000000) (a : Nat) (ha : a ≤ b.length) : ∀ (d j : Nat) (acc : Int), d + j = 9 → 0 ≤ acc → acc < 128 ^ j →
    Ev (fun k => wire_one.l0 k b a acc ((a + j : Nat) : Int) (7 * (j : Int))) (oneRes a j acc (oneG d (b.drop (a + j)))) := by
  intro d
  induction d with
  | zero =>
    intro j acc hd h0 h1
    have hj : j = 9 := by omega
    subst hj
    cases hdr : b.drop (a + 9) with
    | nil =>
      have hge : b.length ≤ a + 9 := List.drop_eq_nil_iff.1 hdr
      refine Ev.step (f := fun _ => some (0, 0, false)) (fun k => ?_) (Ev.now _)
      simp only [wire_one.l0]
      rw [if_neg (by omega)]
    | cons x r =>
      obtain ⟨e1, e2, e3, e4⟩ := rdN b (a + 9) x r hdr
      have hx := hb x e4
      unfold isByte at hx
      have hw : IntKind.u64.wrap x = x := by rw [IntKind.wrap_u64]; omega
      by_cases hx1 : x > 1
      · rw [show oneG 0 (x :: r) = none by simp [oneG]; omega]
        refine Ev.step (f := fun k => wire_one.j1 k b a acc ((a + 9 : Nat) : Int) 63 x true) (fun k => ?_) ?_
        · simp only [wire_one.l0]
          rw [if_pos (by omega), if_pos (by omega), if_pos (by omega), e1, hw, if_pos hx1]
          rfl
        · refine Ev.step (f := fun _ => some (0, 0, false)) (fun k => ?_) (Ev.now _)
          simp only [wire_one.j1, if_true]
      · rw [show oneG 0 (x :: r) = some (x, 1) by simp [oneG]; omega]
        refine Ev.step (f := fun k => wire_one.j1 k b a acc ((a + 9 : Nat) : Int) 63 x (x == 0)) (fun k => ?_) ?_
        · simp only [wire_one.l0]
          rw [if_pos (by omega), if_pos (by omega), if_pos (by omega), e1, hw, if_neg hx1, if_pos (by omega)]
          rfl
        · by_cases hz : x = 0
          · subst hz
            refine Ev.step (f := fun _ => some (0, 0, false)) (fun k => ?_) (Ev.now _)
            simp only [wire_one.j1, beq_self_eq_true, if_true]
          · have hx2 : x = 1 := by omega
            subst hx2
            refine Ev.step (f := fun _ => some (acc + 1 * 128 ^ 9, ((a + 9 + 1 : Nat) : Int), true)) (fun k => ?_) (Ev.now _)
            have hs := step_bits acc 1 9 (by omega) h0 h1 (by unfold isByte; omega) (by decide)
            simp only [wire_one.j1]
            rw [if_neg (by decide), if_pos (by omega), if_pos (by omega)]
            rw [show (7 * ((9 : Nat) : Int)) = 63 by rfl] at hs
            rw [hs]
            have hw2 : wrap64 (((a + 9 : Nat) : Int) + 1) = ((a + 9 + 1 : Nat) : Int) := by unfold wrap64; omega
            rw [hw2]
            rfl
  | succ d ih =>
    intro j acc hd h0 h1
    have hpn : (0 : Int) < 128 ^ j := Int.pow_pos (by omega)
    have hps : (128 : Int) ^ (j + 1) = 128 ^ j * 128 := Int.pow_succ ..
    have h9 : (128 : Int) ^ (j + 1) ≤ 128 ^ 9 := by
      have := Nat.pow_le_pow_right (n := 128) (by omega) (show j + 1 ≤ 9 by omega)
      exact_mod_cast this
    have h99 : (128 : Int) ^ 9 = 9223372036854775808 := by decide
    cases hdr : b.drop (a + j) with
    | nil =>
      have hge : b.length ≤ a + j := List.drop_eq_nil_iff.1 hdr
      refine Ev.step (f := fun _ => some (0, 0, false)) (fun k => ?_) (Ev.now _)
      simp only [wire_one.l0]
      rw [if_neg (by omega)]
    | cons x r =>
      obtain ⟨e1, e2, e3, e4⟩ := rdN b (a + j) x r hdr
      have hxb := hb x e4
      have hx := hxb
      unfold isByte at hx
      have hw : IntKind.u64.wrap x = x := by rw [IntKind.wrap_u64]; omega
      have hm : (x % 128) * 128 ^ j < 128 ^ j * 128 := by
        rw [Int.mul_comm]
        exact Int.mul_lt_mul_of_pos_left (by omega) hpn
      have hs := step_bits acc x j (by omega) h0 h1 hxb (by omega)
      have hw2 : wrap64 (((a + j : Nat) : Int) + 1) = ((a + (j + 1) : Nat) : Int) := by unfold wrap64; omega
      have hw3 := w7 j (le9 d j hd)
      have h63 := ne63 d j hd
      by_cases hz : 0 < j ∧ x = 0
      · obtain ⟨hj, rfl⟩ := hz
        rw [show oneG (d + 1) (0 :: r) = some (0, 1) by simp [oneG]]
        simp only [oneRes, hj, and_self, if_true]
        refine Ev.step (f := fun k => wire_one.j1 k b a acc ((a + j : Nat) : Int) (7 * (j : Int)) 0 true) (fun k => ?_) ?_
        · simp only [wire_one.l0]
          rw [if_pos (Int.ofNat_lt.2 e2), if_pos (Int.natCast_nonneg _), if_neg h63, if_pos (gtj a j hj), e1, hw]
          rfl
        · refine Ev.step (f := fun _ => some (0, 0, false)) (fun k => ?_) (Ev.now _)
          simp only [wire_one.j1, if_true]
      · have h2 : Ev (fun k => wire_one.j1 k b a acc ((a + j : Nat) : Int) (7 * (j : Int)) x false) (oneRes a j acc (oneG (d + 1) (x :: r))) := by
          by_cases hlt : x < 128
          · rw [show oneG (d + 1) (x :: r) = some (x, 1) by simp [oneG, hlt]]
            simp only [oneRes, hz, if_false]
            refine Ev.step (f := fun _ => some (acc + x * 128 ^ j, ((a + j + 1 : Nat) : Int), true)) (fun k => ?_) (Ev.now _)
            simp only [wire_one.j1, Bool.false_eq_true, if_false]
            rw [if_pos (by omega), if_pos hlt, hs, hw2, show x % 128 = x by omega]
            rfl
          · have hlt' : acc + (x % 128) * 128 ^ j < 128 ^ (j + 1) := by
              have : (x % 128) * 128 ^ j ≤ 127 * 128 ^ j := Int.mul_le_mul_of_nonneg_right (by omega) (by omega)
              rw [hps]; omega
            have hnn : 0 ≤ (x % 128) * 128 ^ j := Int.mul_nonneg (by omega) (by omega)
            have ih1 := ih (j + 1) (acc + (x % 128) * 128 ^ j) (by omega) (by omega) hlt'
            rw [show a + (j + 1) = a + j + 1 by omega, e3] at ih1
            have er : oneRes a j acc (oneG (d + 1) (x :: r)) = oneRes a (j + 1) (acc + (x % 128) * 128 ^ j) (oneG d r) := by
              rw [oneG_more hlt]
              cases ho : oneG d r with
              | none => rfl
              | some p =>
                obtain ⟨m, l⟩ := p
                have hbd := oneG_bounds d r (fun y hy => hb y (List.mem_of_mem_drop (e3 ▸ hy))) m l ho
                simp only [Option.bind_some]
                by_cases hm0 : m = 0
                · subst hm0
                  simp [oneRes]
                · rw [if_neg hm0]
                  simp only [oneRes]
                  rw [if_neg (by omega), if_neg (by omega), hps]
                  simp only [Prod.mk.injEq, and_true]
                  refine ⟨?_, by omega⟩
                  rw [show x % 128 = x - 128 by omega, Int.add_mul, Int.mul_assoc, Int.mul_comm 128 (m * 128 ^ j), Int.mul_assoc, Int.add_assoc]
            rw [er]
            refine Ev.step (f := fun k => wire_one.l0 k b a (acc + (x % 128) * 128 ^ j) ((a + (j + 1) : Nat) : Int) (7 * ((j + 1 : Nat) : Int))) (fun k => ?_) (by rw [show a + (j + 1) = a + j + 1 by omega]; exact ih1)
            simp only [wire_one.j1, Bool.false_eq_true, if_false]
            rw [if_pos (by omega), if_neg hlt, hs, hw2, hw3]
        by_cases hj : 0 < j
        · have hx0 : (x == 0) = false := beq_eq_false_iff_ne.2 (fun e => hz ⟨hj, e⟩)
          refine Ev.step (f := fun k => wire_one.j1 k b a acc ((a + j : Nat) : Int) (7 * (j : Int)) x false) (fun k => ?_) h2
          simp only [wire_one.l0]
          rw [if_pos (Int.ofNat_lt.2 e2), if_pos (Int.natCast_nonneg _), if_neg h63, if_pos (gtj a j hj), e1, hw, hx0]
        · refine Ev.step (f := fun k => wire_one.j1 k b a acc ((a + j : Nat) : Int) (7 * (j : Int)) x false) (fun k => ?_) h2
          simp only [wire_one.l0]
          rw [if_pos (Int.ofNat_lt.2 e2), if_pos (Int.natCast_nonneg _), if_neg h63, if_neg (ngtj a j hj), e1, hw]
theorem wone (b : List Int) (hb : ∀ x ∈ b, isByte x) (hl : b.length ≤ 1000000) (a : Nat) (ha : a ≤ b.length) :
    Ev (fun k => wire_one.f k b a) (match oneG 9 (b.drop a) with | some (m, l) => (m, ((a + l : Nat) : Int), true) | none => (0, 0, false)) := by
  have h := wone0 b hb hl a ha 9 0 0 rfl (by omega) (by decide)
  unfold wire_one.f
  have e : oneRes a 0 0 (oneG 9 (b.drop (a + 0))) = (match oneG 9 (b.drop a) with | some (m, l) => (m, ((a + l : Nat) : Int), true) | none => (0, 0, false)) := by
    rw [Nat.add_zero]
    cases oneG 9 (b.drop a) with
    | none => rfl
    | some p =>
      obtain ⟨m, l⟩ := p
      simp [oneRes]
  rw [e] at h
  exact h
theorem vnt_one (d : Nat) (n : Int) (h : n < 128) : (vnt d n).length = 1 := by
  cases d with
  | zero => rfl
  | succ d => simp [vnt, show ¬ n ≥ 128 by omega]
theorem vnt_many : ∀ (d j : Nat) (n : Int), j + 1 ≤ d → 128 ^ (j + 1) ≤ n → n < 128 ^ (j + 2) → (vnt d n).length = j + 2
  | d + 1, 0, n, hd, h0, h1 => by
    have e1 : (128 : Int) ^ (0 + 1) = 128 := by decide
    have e2 : (128 : Int) ^ (0 + 2) = 16384 := by decide
    rw [e1] at h0
    rw [e2] at h1
    unfold vnt
    rw [if_pos h0, List.length_cons, vnt_one d (n / 128) (by omega)]
  | d + 1, j + 1, n, hd, h0, h1 => by
    have e1 : (128 : Int) ^ (j + 1 + 1) = 128 ^ (j + 1) * 128 := Int.pow_succ ..
    have e2 : (128 : Int) ^ (j + 1 + 2) = 128 ^ (j + 2) * 128 := Int.pow_succ ..
    have e3 : (1 : Int) ≤ 128 ^ (j + 1) := Int.pow_pos (by omega)
    rw [e1] at h0
    rw [e2] at h1
    have ih := vnt_many d j (n / 128) (Nat.le_of_succ_le_succ hd) (Int.le_ediv_of_mul_le (by omega) h0) (Int.ediv_lt_of_lt_mul (by omega) h1)
    have h128 : n ≥ 128 := by
      generalize (128 : Int) ^ (j + 1) = p at h0 e3
      omega
    unfold vnt
    rw [if_pos h128, List.length_cons, ih]
theorem vnt_few : ∀ (d j : Nat) (n : Int), n < 128 ^ (j + 1) → (vnt d n).length ≤ j + 1
  | 0, j, n, h => by simp [vnt]
  | d + 1, 0, n, h => by
    have e1 : (128 : Int) ^ (0 + 1) = 128 := by decide
    rw [e1] at h
    rw [vnt_one _ n h]
    omega
  | d + 1, j + 1, n, h => by
    have e1 : (128 : Int) ^ (j + 1 + 1) = 128 ^ (j + 1) * 128 := Int.pow_succ ..
    rw [e1] at h
    have ih := vnt_few d j (n / 128) (Int.ediv_lt_of_lt_mul (by omega) h)
    unfold vnt
    split
    · rw [List.length_cons]; omega
    · simp
theorem acc_bounds (acc x p : Int) (h0 : 0 ≤ acc) (h1 : acc < p) (hx0 : 0 ≤ x) (hx1 : x < 128) : 0 ≤ x * p ∧ 0 ≤ acc + x * p ∧ acc + x * p < p * 128 ∧ (1 ≤ x → p ≤ acc + x * p) := by
  have hp : 0 < p := by omega
  have a1 : 0 ≤ x * p := Int.mul_nonneg hx0 (by omega)
  have a2 : x * p ≤ 127 * p := Int.mul_le_mul_of_nonneg_right (by omega) (by omega)
  refine ⟨a1, by omega, by omega, fun h => ?_⟩
  have : 1 * p ≤ x * p := Int.mul_le_mul_of_nonneg_right h (by omega)
  omega
theorem put_len_iff (j : Nat) (hj : j ≤ 9) (acc x : Int) (h0 : 0 ≤ acc) (h1 : acc < 128 ^ j) (hx0 : 0 ≤ x) (hx1 : x < 128) : ((vnt 9 (acc + x * 128 ^ j)).length = j + 1) ↔ ¬ (0 < j ∧ x = 0) := by
  have hb := acc_bounds acc x (128 ^ j) h0 h1 hx0 hx1
  cases j with
  | zero =>
    simp only [Int.pow_zero] at h1 hb ⊢
    rw [vnt_one 9 _ (by omega)]
    simp
  | succ j =>
    by_cases hx : x = 0
    · subst hx
      have := vnt_few 9 j (acc + 0 * 128 ^ (j + 1)) (by rw [Int.zero_mul, Int.add_zero]; exact h1)
      constructor
      · intro h
        rw [h] at this
        exact absurd this (Nat.not_succ_le_self _)
      · intro h
        exact absurd ⟨Nat.succ_pos _, rfl⟩ h
    · have hx' : 1 ≤ x := Int.lt_iff_add_one_le.1 (Int.lt_iff_le_and_ne.2 ⟨hx0, fun e => hx e.symm⟩)
      have e2 : (128 : Int) ^ (j + 2) = 128 ^ (j + 1) * 128 := Int.pow_succ ..
      rw [vnt_many 9 j _ hj (hb.2.2.2 hx') (by rw [e2]; exact hb.2.2.1)]
      simp [hx]
def oneRef (at_ j : Nat) (acc : Int) : Option (Int × Nat) → Int × Int
  | some (m, l) => if 0 < j ∧ m = 0 then (0, -1) else (acc + m * 128 ^ j, ((at_ + j + l : Nat) : Int))
  | none => (0, -1)
theorem w64n (n : Nat) (h : n ≤ 1000100) : wrap64 ((n : Int) + 1) = ((n + 1 : Nat) : Int) := by unfold wrap64; omega
theorem w64j (a j : Nat) (h : a + j ≤ 1000100) : wrap64 (((a + j + 1 : Nat) : Int) - (a : Int)) = ((j + 1 : Nat) : Int) := by unfold wrap64; omega
theorem w64a (a c : Nat) (h : a + c ≤ 1000100) : wrap64 ((a : Int) + (c : Int)) = ((a + c : Nat) : Int) := by unfold wrap64; omega
theorem u64id {n : Int} (h0 : 0 ≤ n) (h1 : n < 18446744073709551616) : IntKind.u64.wrap n = n := by rw [IntKind.wrap_u64]; omega
theorem castLt {a b : Nat} (h : a < b) : (a : Int) < (b : Int) := Int.ofNat_lt.2 h
theorem castNlt {a b : Nat} (h : b ≤ a) : ¬ (a : Int) < (b : Int) := fun h1 => Nat.not_lt.2 h (Int.ofNat_lt.1 h1)
theorem rone0 (b : List Int) (hb : ∀ x ∈ b, isByte x) (hl : b.length ≤ 1000000) (a : Nat) (ha : a ≤ b.length) : ∀ (d j : Nat) (acc : Int), d + j = 9 → 0 ≤ acc → acc < 128 ^ j →
    Ev (fun k => dunnageref02_one.l0 k b a acc (128 ^ j) ((a + j : Nat) : Int)) (oneRef a j acc (oneG d (b.drop (a + j)))) := by
  intro d
  induction d with
  | zero =>
    intro j acc hd h0 h1
    have hj : j = 9 := by rw [Nat.zero_add] at hd; exact hd
    subst hj
    have hw10 : wrap64 ((a : Int) + 10) = ((a + 10 : Nat) : Int) := w64a a 10 (Nat.le_trans (Nat.add_le_add_right (Nat.le_trans ha hl) 10) (by decide))
    have hw9 : wrap64 ((a : Int) + 9) = ((a + 9 : Nat) : Int) := w64a a 9 (Nat.le_trans (Nat.add_le_add_right (Nat.le_trans ha hl) 9) (by decide))
    cases hdr : b.drop (a + 9) with
    | nil =>
      have hge : b.length ≤ a + 9 := List.drop_eq_nil_iff.1 hdr
      refine Ev.step (f := fun k => dunnageref02_one.j1 k b a acc (128 ^ 9) ((a + 9 : Nat) : Int) false) (fun k => ?_) (Ev.step (f := fun _ => some (0, -1)) (fun k => ?_) (Ev.now _))
      · simp only [dunnageref02_one.l0]
        rw [if_neg (castNlt hge)]
      · simp only [dunnageref02_one.j1, Bool.false_eq_true, if_false]
    | cons x r =>
      obtain ⟨e1, e2, e3, e4⟩ := rdN b (a + 9) x r hdr
      have hx := hb x e4
      have hx0 := hx.1
      have hx1 := hx.2
      have hy : IntKind.u64.wrap (Int.tmod x 128) = x % 128 := by
        rw [Int.tmod_eq_emod_of_nonneg hx0, IntKind.wrap_u64]
        clear h1 h0
        omega
      have hwi : wrap64 (((a + 9 : Nat) : Int) + 1) = ((a + 9 + 1 : Nat) : Int) := w64n _ (Nat.le_trans (Nat.le_of_lt e2) (Nat.le_trans hl (by decide)))
      have hwj : wrap64 (((a + 9 + 1 : Nat) : Int) - (a : Int)) = ((9 + 1 : Nat) : Int) := w64j a 9 (Nat.le_trans (Nat.le_of_lt e2) (Nat.le_trans hl (by decide)))
      refine Ev.step (f := fun k => dunnageref02_one.j1 k b a acc (128 ^ 9) ((a + 9 : Nat) : Int) true) (fun k => ?_) (Ev.step (f := fun k => dunnageref02_one.j2 k b a acc (128 ^ 9) ((a + 9 : Nat) : Int) (x % 128) (decide (x % 128 > 1))) (fun k => ?_) ?_)
      · simp only [dunnageref02_one.l0]
        rw [if_pos (castLt e2), hw10, decide_eq_true (castLt (Nat.lt_succ_self _))]
      · simp only [dunnageref02_one.j1, if_true]
        rw [if_pos (Int.natCast_nonneg _), if_pos (castLt e2), e1, hy, hw9, if_pos rfl]
      · by_cases hy1 : x % 128 > 1
        · have hn : oneG 0 (x :: r) = none := by
            rw [oneG, if_neg]
            clear h1 h0
            omega
          rw [hn]
          refine Ev.step (f := fun _ => some (0, -1)) (fun k => ?_) (Ev.now _)
          simp only [dunnageref02_one.j2, decide_eq_true hy1, if_true]
        · by_cases hlt : x < 128
          · have hxx : x % 128 = x := Int.emod_eq_of_lt hx0 hlt
            rw [hxx] at hy1 ⊢
            have hxle : x ≤ 1 := Int.not_lt.1 hy1
            rw [show oneG 0 (x :: r) = some (x, 1) by rw [oneG, if_pos hxle]]
            have hbd := acc_bounds acc x (128 ^ 9) h0 h1 hx0 hlt
            have h99 : (128 : Int) ^ 9 = 9223372036854775808 := by decide
            have hsm : acc + x * 128 ^ 9 < 18446744073709551616 ∧ x * 128 ^ 9 < 18446744073709551616 := by
              rw [h99] at h1 ⊢
              omega
            have hput := rput1 9 (acc + x * 128 ^ 9) [] hbd.2.1 hsm.1 (by rw [pow10]; exact Int.lt_trans hsm.1 (by decide)) (by decide)
            have hiff := put_len_iff 9 (Nat.le_refl _) acc x h0 h1 hx0 hlt
            refine Ev.step (f := fun k => (dunnageref02_put.f k (acc + x * 128 ^ 9)).bind fun t => if (t.length : Int) = ((9 + 1 : Nat) : Int) then some (acc + x * 128 ^ 9, ((a + 9 + 1 : Nat) : Int)) else some (0, -1)) (fun k => ?_) (Ev.bind (a := vnt 9 (acc + x * 128 ^ 9)) (by simpa [dunnageref02_put.f] using hput) ?_)
            · simp only [dunnageref02_one.j2]
              rw [if_neg (by rw [decide_eq_false hy1]; decide), if_pos (Int.natCast_nonneg _), if_pos (castLt e2), e1, if_pos hlt, u64id hbd.1 hsm.2, u64id hbd.2.1 hsm.1, hwi, hwj]
            · simp only [oneRef]
              by_cases hz : 0 < 9 ∧ x = 0
              · rw [if_pos hz, if_neg (fun e => (hiff.1 (Int.ofNat_inj.1 e)) hz)]
                exact Ev.now _
              · rw [if_neg hz, if_pos (by rw [hiff.2 hz])]
                exact Ev.now _
          · have hn : oneG 0 (x :: r) = none := by
              rw [oneG, if_neg]
              clear h1 h0
              omega
            rw [hn]
            refine Ev.step (f := fun k => dunnageref02_one.l0 k b a (IntKind.u64.wrap (acc + IntKind.u64.wrap (x % 128 * 128 ^ 9))) (IntKind.u64.wrap (128 ^ 9 * 128)) ((a + 9 + 1 : Nat) : Int)) (fun k => ?_) ?_
            · simp only [dunnageref02_one.j2]
              rw [if_neg (by rw [decide_eq_false hy1]; decide), if_pos (Int.natCast_nonneg _), if_pos (castLt e2), e1, if_neg hlt, hwi]
            · refine Ev.step (f := fun k => dunnageref02_one.j1 k b a (IntKind.u64.wrap (acc + IntKind.u64.wrap (x % 128 * 128 ^ 9))) (IntKind.u64.wrap (128 ^ 9 * 128)) ((a + 9 + 1 : Nat) : Int) false) (fun k => ?_) (Ev.step (f := fun _ => some (0, -1)) (fun k => ?_) (Ev.now _))
              · simp only [dunnageref02_one.l0]
                rw [hw10, decide_eq_false (castNlt (Nat.le_refl _)), ite_self]
              · simp only [dunnageref02_one.j1, Bool.false_eq_true, if_false]
  | succ d ih =>
    intro j acc hd h0 h1
    have hj9 := le9 d j hd
    have hjl : j + 1 ≤ 9 := lt9 d j hd
    have hw10 : wrap64 ((a : Int) + 10) = ((a + 10 : Nat) : Int) := w64a a 10 (Nat.le_trans (Nat.add_le_add_right (Nat.le_trans ha hl) 10) (by decide))
    have hw9 : wrap64 ((a : Int) + 9) = ((a + 9 : Nat) : Int) := w64a a 9 (Nat.le_trans (Nat.add_le_add_right (Nat.le_trans ha hl) 9) (by decide))
    cases hdr : b.drop (a + j) with
    | nil =>
      have hge : b.length ≤ a + j := List.drop_eq_nil_iff.1 hdr
      refine Ev.step (f := fun k => dunnageref02_one.j1 k b a acc (128 ^ j) ((a + j : Nat) : Int) false) (fun k => ?_) (Ev.step (f := fun _ => some (0, -1)) (fun k => ?_) (Ev.now _))
      · simp only [dunnageref02_one.l0]
        rw [if_neg (castNlt hge)]
      · simp only [dunnageref02_one.j1, Bool.false_eq_true, if_false]
    | cons x r =>
      obtain ⟨e1, e2, e3, e4⟩ := rdN b (a + j) x r hdr
      have hx := hb x e4
      have hx0 := hx.1
      have hx1 := hx.2
      have hy : IntKind.u64.wrap (Int.tmod x 128) = x % 128 := by
        rw [Int.tmod_eq_emod_of_nonneg hx0, IntKind.wrap_u64]
        clear h1 h0 ih
        omega
      have hwi : wrap64 (((a + j : Nat) : Int) + 1) = ((a + j + 1 : Nat) : Int) := w64n _ (Nat.le_trans (Nat.le_of_lt e2) (Nat.le_trans hl (by decide)))
      have hwj : wrap64 (((a + j + 1 : Nat) : Int) - (a : Int)) = ((j + 1 : Nat) : Int) := w64j a j (Nat.le_trans (Nat.le_of_lt e2) (Nat.le_trans hl (by decide)))
      have hne : ¬ ((a + j : Nat) : Int) = ((a + 9 : Nat) : Int) := fun e => by
        have := Nat.add_left_cancel (Int.ofNat_inj.1 e)
        rw [this] at hjl
        exact absurd hjl (by decide)
      have h99 : (128 : Int) ^ 9 = 9223372036854775808 := by decide
      have hps : (128 : Int) ^ (j + 1) = 128 ^ j * 128 := Int.pow_succ ..
      have hle : (128 : Int) ^ (j + 1) ≤ 128 ^ 9 := by
        have := Nat.pow_le_pow_right (n := 128) (by decide) hjl
        exact_mod_cast this
      have hym : 0 ≤ x % 128 ∧ x % 128 < 128 := ⟨Int.emod_nonneg _ (by decide), Int.emod_lt_of_pos _ (by decide)⟩
      have hbd := acc_bounds acc (x % 128) (128 ^ j) h0 h1 hym.1 hym.2
      have hsm : acc + x % 128 * 128 ^ j < 9223372036854775808 := by
        rw [← hps] at hbd
        rw [h99] at hle
        exact Int.lt_of_lt_of_le hbd.2.2.1 hle
      have hsm2 : x % 128 * 128 ^ j < 18446744073709551616 := by
        generalize x % 128 * 128 ^ j = q at hsm ⊢
        clear ih h1 hle hbd hps
        omega
      have hsm3 : acc + x % 128 * 128 ^ j < 18446744073709551616 := Int.lt_trans hsm (by decide)
      refine Ev.step (f := fun k => dunnageref02_one.j1 k b a acc (128 ^ j) ((a + j : Nat) : Int) true) (fun k => ?_) (Ev.step (f := fun k => dunnageref02_one.j2 k b a acc (128 ^ j) ((a + j : Nat) : Int) (x % 128) false) (fun k => ?_) ?_)
      · simp only [dunnageref02_one.l0]
        rw [if_pos (castLt e2), hw10, decide_eq_true (castLt (Nat.add_lt_add_left (Nat.lt_of_le_of_lt hj9 (by decide)) a))]
      · simp only [dunnageref02_one.j1, if_true]
        rw [if_pos (Int.natCast_nonneg _), if_pos (castLt e2), e1, hy, hw9, if_neg hne]
      · by_cases hlt : x < 128
        · have hxx : x % 128 = x := Int.emod_eq_of_lt hx0 hlt
          rw [hxx] at hbd hsm2 hsm3 ⊢
          rw [show oneG (d + 1) (x :: r) = some (x, 1) by rw [oneG, if_pos hlt]]
          have hput := rput1 9 (acc + x * 128 ^ j) [] hbd.2.1 hsm3 (by rw [pow10]; exact Int.lt_trans hsm3 (by decide)) (by decide)
          have hiff := put_len_iff j hj9 acc x h0 h1 hx0 hlt
          refine Ev.step (f := fun k => (dunnageref02_put.f k (acc + x * 128 ^ j)).bind fun t => if (t.length : Int) = ((j + 1 : Nat) : Int) then some (acc + x * 128 ^ j, ((a + j + 1 : Nat) : Int)) else some (0, -1)) (fun k => ?_) (Ev.bind (a := vnt 9 (acc + x * 128 ^ j)) (by simpa [dunnageref02_put.f] using hput) ?_)
          · simp only [dunnageref02_one.j2, Bool.false_eq_true, if_false]
            rw [if_pos (Int.natCast_nonneg _), if_pos (castLt e2), e1, if_pos hlt, u64id hbd.1 hsm2, u64id hbd.2.1 hsm3, hwi, hwj]
          · simp only [oneRef]
            by_cases hz : 0 < j ∧ x = 0
            · rw [if_pos hz, if_neg (fun e => (hiff.1 (Int.ofNat_inj.1 e)) hz)]
              exact Ev.now _
            · rw [if_neg hz, if_pos (by rw [hiff.2 hz])]
              exact Ev.now _
        · have ih1 := ih (j + 1) (acc + (x % 128) * 128 ^ j) (by rw [← hd, Nat.add_assoc, Nat.add_comm 1 j]) hbd.2.1 (by rw [hps]; exact hbd.2.2.1)
          rw [show a + (j + 1) = a + j + 1 from rfl, e3] at ih1
          have er : oneRef a j acc (oneG (d + 1) (x :: r)) = oneRef a (j + 1) (acc + (x % 128) * 128 ^ j) (oneG d r) := by
            rw [oneG_more hlt]
            cases ho : oneG d r with
            | none => rfl
            | some p =>
              obtain ⟨m, l⟩ := p
              have hbd := oneG_bounds d r (fun y hy => hb y (List.mem_of_mem_drop (e3 ▸ hy))) m l ho
              simp only [Option.bind_some]
              by_cases hm0 : m = 0
              · subst hm0
                simp [oneRef]
              · rw [if_neg hm0]
                simp only [oneRef]
                have hnz : ¬ (0 < j ∧ x - 128 + 128 * m = 0) := fun h => by
                  have h2 := h.2
                  have hm1 := hbd.1
                  clear ih h1 hle hps ih1 hbd
                  omega
                rw [if_neg hnz, if_neg (fun h => hm0 h.2), hps]
                simp only [Prod.mk.injEq]
                refine ⟨?_, congrArg _ (addl a j l)⟩
                rw [show x % 128 = x - 128 by clear ih h1 hle hps ih1; omega, Int.add_mul, Int.mul_assoc, Int.mul_comm 128 (m * 128 ^ j), Int.mul_assoc, Int.add_assoc]
          rw [er]
          refine Ev.step (f := fun k => dunnageref02_one.l0 k b a (acc + (x % 128) * 128 ^ j) (128 ^ (j + 1)) ((a + j + 1 : Nat) : Int)) (fun k => ?_) ih1
          simp only [dunnageref02_one.j2, Bool.false_eq_true, if_false]
          rw [if_pos (Int.natCast_nonneg _), if_pos (castLt e2), e1, if_neg hlt, u64id hbd.1 hsm2, u64id hbd.2.1 hsm3, hwi, ← hps, u64id (Int.le_of_lt (Int.pow_pos (by decide))) (Int.lt_of_le_of_lt hle (by decide))]
theorem rone (b : List Int) (hb : ∀ x ∈ b, isByte x) (hl : b.length ≤ 1000000) (a : Nat) (ha : a ≤ b.length) :
    Ev (fun k => dunnageref02_one.f k b a) (match oneG 9 (b.drop a) with | some (m, l) => (m, ((a + l : Nat) : Int)) | none => (0, -1)) := by
  have h := rone0 b hb hl a ha 9 0 0 rfl (by omega) (by decide)
  unfold dunnageref02_one.f
  have e : oneRef a 0 0 (oneG 9 (b.drop (a + 0))) = (match oneG 9 (b.drop a) with | some (m, l) => (m, ((a + l : Nat) : Int)) | none => (0, -1)) := by
    rw [Nat.add_zero]
    cases oneG 9 (b.drop a) with
    | none => rfl
    | some p =>
      obtain ⟨m, l⟩ := p
      simp [oneRef]
  rw [e] at h
  exact h
end Go.Proofs.Ytppfkbigeknedaa.Q
