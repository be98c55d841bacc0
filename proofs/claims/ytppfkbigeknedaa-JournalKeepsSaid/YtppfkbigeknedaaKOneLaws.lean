/- A number read from bytes, in plain lists: the program's and the document's; what was put is read again. -/
import Derived.Test.YtppfkbigeknedaaKPutLaws
import Derived.Test.YtppfkbigeknedaaKQwireone
import Derived.Test.YtppfkbigeknedaaKQdunnageref02one
namespace Go.Proofs.Ytppfkbigeknedaa.Q
open Go.RowKit Go.Proofs.YtppfkbigeknedaaW.PrintWords Go.Proofs.YtppfkbigeknedaaW.PrintMore
set_option linter.unusedVariables false
set_option linter.unusedSimpArgs false
def oneG : Nat → List Int → Option (Int × Nat)
  | _, [] => none
  | 0, x :: _ => if x ≤ 1 then some (x, 1) else none
  | d + 1, x :: r => if x < 128 then some (x, 1) else (oneG d r).bind fun p => if p.1 = 0 then none else some (x - 128 + 128 * p.1, p.2 + 1)
theorem oneG_more {d : Nat} {x : Int} {r : List Int} (h : ¬ x < 128) : oneG (d + 1) (x :: r) = (oneG d r).bind fun p => if p.1 = 0 then none else some (x - 128 + 128 * p.1, p.2 + 1) := by
  rw [oneG, if_neg h]
def isByte (x : Int) : Prop := 0 ≤ x ∧ x < 256
theorem oneG_bounds : ∀ (d : Nat) (b : List Int), (∀ x ∈ b, isByte x) → ∀ m l, oneG d b = some (m, l) → 0 ≤ m ∧ m < 2 * 128 ^ d ∧ 1 ≤ l ∧ l ≤ b.length
  | _, [], _, m, l, h => by simp [oneG] at h
  | 0, x :: r, hb, m, l, h => by
    have hx := hb x (by simp)
    unfold isByte at hx
    unfold oneG at h
    split at h
    · simp only [Option.some.injEq, Prod.mk.injEq] at h
      obtain ⟨rfl, rfl⟩ := h
      simp only [List.length_cons]
      refine ⟨hx.1, ?_, by omega, by omega⟩
      simp; omega
    · cases h
  | d + 1, x :: r, hb, m, l, h => by
    have hx := hb x (by simp)
    unfold isByte at hx
    have hp : (128 : Int) ^ (d + 1) = 128 ^ d * 128 := Int.pow_succ ..
    have hq : (0 : Int) < 128 ^ d := Int.pow_pos (by omega)
    unfold oneG at h
    split at h
    · simp only [Option.some.injEq, Prod.mk.injEq] at h
      obtain ⟨rfl, rfl⟩ := h
      simp only [List.length_cons]
      refine ⟨hx.1, ?_, by omega, by omega⟩
      rw [hp]; omega
    · obtain ⟨p, h1, h⟩ := Option.bind_eq_some_iff.1 h
      have ih := oneG_bounds d r (fun y hy => hb y (List.mem_cons_of_mem _ hy)) p.1 p.2 h1
      split at h
      · cases h
      · simp only [Option.some.injEq, Prod.mk.injEq] at h
        obtain ⟨rfl, rfl⟩ := h
        simp only [List.length_cons]
        refine ⟨by omega, ?_, by omega, by omega⟩
        rw [hp]; omega
theorem vnt_byte : ∀ (d : Nat) (n : Int), 0 ≤ n → n < 2 * 128 ^ d → ∀ x ∈ vnt d n, isByte x
  | 0, n, h0, h1, x, hx => by
    simp only [vnt, List.mem_cons, List.not_mem_nil, or_false] at hx
    subst hx
    simp at h1
    unfold isByte; omega
  | d + 1, n, h0, h1, x, hx => by
    have hp : (128 : Int) ^ (d + 1) = 128 ^ d * 128 := Int.pow_succ ..
    rw [hp] at h1
    unfold vnt at hx
    split at hx
    · rcases List.mem_cons.1 hx with rfl | hx
      · unfold isByte; omega
      · exact vnt_byte d (n / 128) (by omega) (by omega) x hx
    · simp only [List.mem_cons, List.not_mem_nil, or_false] at hx
      subst hx
      unfold isByte; omega
theorem oneG_vnt : ∀ (d : Nat) (n : Int) (r : List Int), 0 ≤ n → n < 2 * 128 ^ d → oneG d (vnt d n ++ r) = some (n, (vnt d n).length)
  | 0, n, r, h0, h1 => by
    simp at h1
    simp [vnt, oneG, show n ≤ 1 by omega]
  | d + 1, n, r, h0, h1 => by
    have hp : (128 : Int) ^ (d + 1) = 128 ^ d * 128 := Int.pow_succ ..
    rw [hp] at h1
    unfold vnt
    split
    · have ih := oneG_vnt d (n / 128) r (by omega) (by omega)
      rw [List.cons_append]
      unfold oneG
      rw [if_neg (by omega), ih, Option.bind_some, if_neg (by simp only; omega)]
      simp only [List.length_cons, Option.some.injEq, Prod.mk.injEq, and_true]
      omega
    · simp [oneG, show n < 128 by omega]
theorem oneG_torn : ∀ (d : Nat) (n : Int) (t : Nat), 0 ≤ n → n < 2 * 128 ^ d → t < (vnt d n).length → oneG d ((vnt d n).take t) = none
  | 0, n, t, h0, h1, ht => by
    simp only [vnt, List.length_cons, List.length_nil] at ht
    have : t = 0 := by omega
    subst this
    simp [oneG]
  | d + 1, n, t, h0, h1, ht => by
    have hp : (128 : Int) ^ (d + 1) = 128 ^ d * 128 := Int.pow_succ ..
    rw [hp] at h1
    unfold vnt at ht ⊢
    split at ht
    · rename_i hn
      simp only [hn, if_true]
      cases t with
      | zero => simp [oneG]
      | succ t =>
        simp only [List.length_cons] at ht
        rw [List.take_succ_cons]
        unfold oneG
        rw [if_neg (by omega), oneG_torn d (n / 128) t (by omega) (by omega) (by omega)]
        rfl
    · rename_i hn
      simp only [List.length_cons, List.length_nil] at ht
      have : t = 0 := by omega
      subst this
      simp [oneG]
theorem pow9 : (2 : Int) * 128 ^ 9 = 18446744073709551616 := by decide
set_option maxRecDepth 100000 in
theorem andNot128 : ∀ m : Fin 256, (m.val &&& 18446744073709551487 : Nat) = m.val % 128 := by decide +kernel
theorem pow7 (j : Nat) : (2 : Nat) ^ (7 * j) = 128 ^ j := by rw [Nat.pow_mul]
theorem step_bits (acc x : Int) (j : Nat) (hj : j ≤ 9) (h0 : 0 ≤ acc) (h1 : acc < 128 ^ j) (hx : isByte x) (h2 : (x % 128) * 128 ^ j < 18446744073709551616) :
    Go.bits .or .u64 acc (shl .u64 (Go.bits .andNot .u64 x 128) (7 * (j : Int))) = acc + (x % 128) * 128 ^ j := by
  unfold isByte at hx
  have hpn : (0 : Int) < 128 ^ j := Int.pow_pos (by omega)
  have hle : (128 : Int) ^ j ≤ 128 ^ 9 := by
    have := Nat.pow_le_pow_right (n := 128) (by omega) hj
    exact_mod_cast this
  have h9 : (128 : Int) ^ 9 = 9223372036854775808 := by decide
  have e1 : Go.bits .andNot .u64 x 128 = x % 128 := by
    rw [u64_andNot x 128 (by omega) (by omega) (by omega) (by omega)]
    have := andNot128 ⟨x.toNat, by omega⟩
    simp only at this
    rw [show (18446744073709551615 - (128 : Int).toNat : Nat) = 18446744073709551487 from rfl, this]
    omega
  have hmx : 0 ≤ x % 128 := by omega
  have hmul : 0 ≤ (x % 128) * 128 ^ j := Int.mul_nonneg hmx (by omega)
  have e2 : shl .u64 (x % 128) (7 * (j : Int)) = (x % 128) * 128 ^ j := by
    unfold shl
    have hm : min (7 * (j : Int)).toNat IntKind.u64.bits = 7 * j := by
      have : (7 * (j : Int)).toNat = 7 * j := by omega
      rw [this]
      have : IntKind.u64.bits = 64 := rfl
      omega
    rw [hm, IntKind.wrap_u64]
    have : (2 : Int) ^ (7 * j) = 128 ^ j := by exact_mod_cast pow7 j
    rw [this]
    omega
  rw [e1, e2, u64_or acc _ h0 (by omega) hmul h2]
  have e3 : ((x % 128) * 128 ^ j).toNat = (x % 128).toNat <<< (7 * j) := by
    rw [Nat.shiftLeft_eq, pow7, Int.toNat_mul hmx (by omega)]
    congr 1
  have hlt : acc.toNat < 2 ^ (7 * j) := by
    rw [pow7]
    have : ((128 : Int) ^ j) = ((128 ^ j : Nat) : Int) := by push_cast; rfl
    rw [this] at h1
    omega
  rw [e3, Nat.or_comm, ← Nat.shiftLeft_add_eq_or_of_lt hlt, ← e3]
  omega
def oneRes (at_ j : Nat) (acc : Int) : Option (Int × Nat) → Int × Int × Bool
  | some (m, l) => if 0 < j ∧ m = 0 then (0, 0, false) else (acc + m * 128 ^ j, ((at_ + j + l : Nat) : Int), true)
  | none => (0, 0, false)
theorem rdN (b : List Int) (i : Nat) (x : Int) (r : List Int) (h : b.drop i = x :: r) : rd b (i : Int) = x ∧ i < b.length ∧ b.drop (i + 1) = r ∧ x ∈ b := by
  have hi : i < b.length := by
    rcases Nat.lt_or_ge i b.length with h1 | h1
    · exact h1
    · rw [List.drop_eq_nil_of_le h1] at h; cases h
  rw [List.drop_eq_getElem_cons hi] at h
  injection h with h1 h2
  exact ⟨by simp [rd, List.getElem?_eq_getElem hi, h1], hi, h2, h1 ▸ List.getElem_mem hi⟩
theorem w7 (j : Nat) (h : j ≤ 9) : wrap64 (7 * (j : Int) + 7) = 7 * ((j + 1 : Nat) : Int) := by unfold wrap64; omega
theorem le9 (d j : Nat) (h : d + 1 + j = 9) : j ≤ 9 := by omega
theorem gtj (a j : Nat) (h : 0 < j) : ((a + j : Nat) : Int) > (a : Int) := by omega
theorem ngtj (a j : Nat) (h : ¬ 0 < j) : ¬ ((a + j : Nat) : Int) > (a : Int) := by omega
theorem ne63 (d j : Nat) (h : d + 1 + j = 9) : ¬ 7 * (j : Int) = 63 := by omega
theorem wone0 (b : List Int) (hb : ∀ x ∈ b, isByte x) (hl : b.length ≤ 1000000) (a : Nat) (ha : a ≤ b.length) : ∀ (d j : Nat) (acc : Int), d + j = 9 → 0 ≤ acc → acc < 128 ^ j →
    Ev (fun k => wire_one.l0 k b a acc ((a + j : Nat) : Int) (7 * (j : Int))) (oneRes a j acc (oneG d (b.drop (a + j)))) := by
  intro d
  induction d with
  | zero =>
    intro j acc hd h0 h1
    have hj : j = 9 := by omega
    subst hj
    cases hdr : b.drop (a + 9) with
    | nil =>
      have hge : b.length ≤ a + 9 := List.drop_eq_nil_iff.1 hdr
      refine Ev.step (f := fun _ => some (0, 0, false)) (fun k => ?_) (Ev.now _)
      simp only [wire_one.l0]
      rw [if_neg (by omega)]
    | cons x r =>
      obtain ⟨e1, e2, e3, e4⟩ := rdN b (a + 9) x r hdr
      have hx := hb x e4
      unfold isByte at hx
      have hw : IntKind.u64.wrap x = x := by rw [IntKind.wrap_u64]; omega
      by_cases hx1 : x > 1
      · rw [show oneG 0 (x :: r) = none by simp [oneG]; omega]
        refine Ev.step (f := fun k => wire_one.j1 k b a acc ((a + 9 : Nat) : Int) 63 x true) (fun k => ?_) ?_
        · simp only [wire_one.l0]
          rw [if_pos (by omega), if_pos (by omega), if_pos (by omega), e1, hw, if_pos hx1]
          rfl
        · refine Ev.step (f := fun _ => some (0, 0, false)) (fun k => ?_) (Ev.now _)
          simp only [wire_one.j1, if_true]
      · rw [show oneG 0 (x :: r) = some (x, 1) by simp [oneG]; omega]
        refine Ev.step (f := fun k => wire_one.j1 k b a acc ((a + 9 : Nat) : Int) 63 x (x == 0)) (fun k => ?_) ?_
        · simp only [wire_one.l0]
          rw [if_pos (by omega), if_pos (by omega), if_pos (by omega), e1, hw, if_neg hx1, if_pos (by omega)]
          rfl
        · by_cases hz : x = 0
          · subst hz
            refine Ev.step (f := fun _ => some (0, 0, false)) (fun k => ?_) (Ev.now _)
            simp only [wire_one.j1, beq_self_eq_true, if_true]
          · have hx2 : x = 1 := by omega
            subst hx2
            refine Ev.step (f := fun _ => some (acc + 1 * 128 ^ 9, ((a + 9 + 1 : Nat) : Int), true)) (fun k => ?_) (Ev.now _)
            have hs := step_bits acc 1 9 (by omega) h0 h1 (by unfold isByte; omega) (by decide)
            simp only [wire_one.j1]
            rw [if_neg (by decide), if_pos (by omega), if_pos (by omega)]
            rw [show (7 * ((9 : Nat) : Int)) = 63 by rfl] at hs
            rw [hs]
            have hw2 : wrap64 (((a + 9 : Nat) : Int) + 1) = ((a + 9 + 1 : Nat) : Int) := by unfold wrap64; omega
            rw [hw2]
            rfl
  | succ d ih =>
    intro j acc hd h0 h1
    have hpn : (0 : Int) < 128 ^ j := Int.pow_pos (by omega)
    have hps : (128 : Int) ^ (j + 1) = 128 ^ j * 128 := Int.pow_succ ..
    have h9 : (128 : Int) ^ (j + 1) ≤ 128 ^ 9 := by
      have := Nat.pow_le_pow_right (n := 128) (by omega) (show j + 1 ≤ 9 by omega)
      exact_mod_cast this
    have h99 : (128 : Int) ^ 9 = 9223372036854775808 := by decide
    cases hdr : b.drop (a + j) with
    | nil =>
      have hge : b.length ≤ a + j := List.drop_eq_nil_iff.1 hdr
      refine Ev.step (f := fun _ => some (0, 0, false)) (fun k => ?_) (Ev.now _)
      simp only [wire_one.l0]
      rw [if_neg (by omega)]
    | cons x r =>
      obtain ⟨e1, e2, e3, e4⟩ := rdN b (a + j) x r hdr
      have hxb := hb x e4
      have hx := hxb
      unfold isByte at hx
      have hw : IntKind.u64.wrap x = x := by rw [IntKind.wrap_u64]; omega
      have hm : (x % 128) * 128 ^ j < 128 ^ j * 128 := by
        rw [Int.mul_comm]
        exact Int.mul_lt_mul_of_pos_left (by omega) hpn
      have hs := step_bits acc x j (by omega) h0 h1 hxb (by omega)
      have hw2 : wrap64 (((a + j : Nat) : Int) + 1) = ((a + (j + 1) : Nat) : Int) := by unfold wrap64; omega
      have hw3 := w7 j (le9 d j hd)
      have h63 := ne63 d j hd
      by_cases hz : 0 < j ∧ x = 0
      · obtain ⟨hj, rfl⟩ := hz
        rw [show oneG (d + 1) (0 :: r) = some (0, 1) by simp [oneG]]
        simp only [oneRes, hj, and_self, if_true]
        refine Ev.step (f := fun k => wire_one.j1 k b a acc ((a + j : Nat) : Int) (7 * (j : Int)) 0 true) (fun k => ?_) ?_
        · simp only [wire_one.l0]
          rw [if_pos (Int.ofNat_lt.2 e2), if_pos (Int.natCast_nonneg _), if_neg h63, if_pos (gtj a j hj), e1, hw]
          rfl
        · refine Ev.step (f := fun _ => some (0, 0, false)) (fun k => ?_) (Ev.now _)
          simp only [wire_one.j1, if_true]
      · have h2 : Ev (fun k => wire_one.j1 k b a acc ((a + j : Nat) : Int) (7 * (j : Int)) x false) (oneRes a j acc (oneG (d + 1) (x :: r))) := by
          by_cases hlt : x < 128
          · rw [show oneG (d + 1) (x :: r) = some (x, 1) by simp [oneG, hlt]]
            simp only [oneRes, hz, if_false]
            refine Ev.step (f := fun _ => some (acc + x * 128 ^ j, ((a + j + 1 : Nat) : Int), true)) (fun k => ?_) (Ev.now _)
            simp only [wire_one.j1, Bool.false_eq_true, if_false]
            rw [if_pos (by omega), if_pos hlt, hs, hw2, show x % 128 = x by omega]
            rfl
          · have hlt' : acc + (x % 128) * 128 ^ j < 128 ^ (j + 1) := by
              have : (x % 128) * 128 ^ j ≤ 127 * 128 ^ j := Int.mul_le_mul_of_nonneg_right (by omega) (by omega)
              rw [hps]; omega
            have hnn : 0 ≤ (x % 128) * 128 ^ j := Int.mul_nonneg (by omega) (by omega)
            have ih1 := ih (j + 1) (acc + (x % 128) * 128 ^ j) (by omega) (by omega) hlt'
            rw [show a + (j + 1) = a + j + 1 by omega, e3] at ih1
            have er : oneRes a j acc (oneG (d + 1) (x :: r)) = oneRes a (j + 1) (acc + (x % 128) * 128 ^ j) (oneG d r) := by
              rw [oneG_more hlt]
              cases ho : oneG d r with
              | none => rfl
              | some p =>
                obtain ⟨m, l⟩ := p
                have hbd := oneG_bounds d r (fun y hy => hb y (List.mem_of_mem_drop (e3 ▸ hy))) m l ho
                simp only [Option.bind_some]
                by_cases hm0 : m = 0
                · subst hm0
                  simp [oneRes]
                · rw [if_neg hm0]
                  simp only [oneRes]
                  rw [if_neg (by omega), if_neg (by omega), hps]
                  simp only [Prod.mk.injEq, and_true]
                  refine ⟨?_, by omega⟩
                  rw [show x % 128 = x - 128 by omega, Int.add_mul, Int.mul_assoc, Int.mul_comm 128 (m * 128 ^ j), Int.mul_assoc, Int.add_assoc]
            rw [er]
            refine Ev.step (f := fun k => wire_one.l0 k b a (acc + (x % 128) * 128 ^ j) ((a + (j + 1) : Nat) : Int) (7 * ((j + 1 : Nat) : Int))) (fun k => ?_) (by rw [show a + (j + 1) = a + j + 1 by omega]; exact ih1)
            simp only [wire_one.j1, Bool.false_eq_true, if_false]
            rw [if_pos (by omega), if_neg hlt, hs, hw2, hw3]
        by_cases hj : 0 < j
        · have hx0 : (x == 0) = false := beq_eq_false_iff_ne.2 (fun e => hz ⟨hj, e⟩)
          refine Ev.step (f := fun k => wire_one.j1 k b a acc ((a + j : Nat) : Int) (7 * (j : Int)) x false) (fun k => ?_) h2
          simp only [wire_one.l0]
          rw [if_pos (Int.ofNat_lt.2 e2), if_pos (Int.natCast_nonneg _), if_neg h63, if_pos (gtj a j hj), e1, hw, hx0]
        · refine Ev.step (f := fun k => wire_one.j1 k b a acc ((a + j : Nat) : Int) (7 * (j : Int)) x false) (fun k => ?_) h2
          simp only [wire_one.l0]
          rw [if_pos (Int.ofNat_lt.2 e2), if_pos (Int.natCast_nonneg _), if_neg h63, if_neg (ngtj a j hj), e1, hw]
theorem wone (b : List Int) (hb : ∀ x ∈ b, isByte x) (hl : b.length ≤ 1000000) (a : Nat) (ha : a ≤ b.length) :
    Ev (fun k => wire_one.f k b a) (match oneG 9 (b.drop a) with | some (m, l) => (m, ((a + l : Nat) : Int), true) | none => (0, 0, false)) := by
  have h := wone0 b hb hl a ha 9 0 0 rfl (by omega) (by decide)
  unfold wire_one.f
  have e : oneRes a 0 0 (oneG 9 (b.drop (a + 0))) = (match oneG 9 (b.drop a) with | some (m, l) => (m, ((a + l : Nat) : Int), true) | none => (0, 0, false)) := by
    rw [Nat.add_zero]
    cases oneG 9 (b.drop a) with
    | none => rfl
    | some p =>
      obtain ⟨m, l⟩ := p
      simp [oneRes]
  rw [e] at h
  exact h
end Go.Proofs.Ytppfkbigeknedaa.Q
