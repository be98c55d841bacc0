/- VecSums, in plain numbers. -/
import Derived.Test.YtppfkbigeknedaaStatVecSums
import Derived.Test.YtppfkbigeknedaaVecLaws
namespace Go.Proofs.Ytppfkbigeknedaa.Q
open Go.RowKit Go.Proofs.YtppfkbigeknedaaW.PrintWords Go.Proofs.YtppfkbigeknedaaW.PrintMore
set_option linter.unusedVariables false
set_option linter.unusedSimpArgs false
theorem sub_ok (a b : Int) : (subF a b).2 = decide (b ≤ a) := rfl
theorem sub_val (a b : Int) (ha : 0 ≤ a) (ha' : a < 18446744073709551616) (hb : 0 ≤ b) (hb' : b < 18446744073709551616) (h : b ≤ a) : (subF a b).1 = IntKind.u64.wrap (a - b) := by
  rw [IntKind.wrap_u64]; rfl
theorem mx_ge_l (a b : Int) : ¬ mx a b < a := by unfold mx; split <;> omega
theorem mx_ge_r (a b : Int) : ¬ mx a b < b := by unfold mx; split <;> omega
theorem mx_one (a b : Int) : mx a b = a ∨ mx a b = b := by unfold mx; split <;> omega
theorem fits_same (a0 a1 a2 a3 b0 b1 b2 b3 : Int) : vec_Fits.f a0 a1 a2 a3 b0 b1 b2 b3 = dunnageref01_Fits.f a0 a1 a2 a3 b0 b1 b2 b3 := by
  unfold vec_Fits.f dunnageref01_Fits.f vec_Sub.f each4
  simp only [Option.bind_some, sub_ok, decide_eq_true_eq]
  by_cases k0 : a0 ≤ b0 <;> by_cases k1 : a1 ≤ b1 <;> by_cases k2 : a2 ≤ b2 <;> by_cases k3 : a3 ≤ b3 <;> simp [k0, k1, k2, k3]
theorem fits_some (a0 a1 a2 a3 b0 b1 b2 b3 : Int) : dunnageref01_Fits.f a0 a1 a2 a3 b0 b1 b2 b3 = some (decide (a0 ≤ b0) && decide (a1 ≤ b1) && decide (a2 ≤ b2) && decide (a3 ≤ b3)) := by
  unfold dunnageref01_Fits.f
  by_cases k0 : a0 ≤ b0 <;> by_cases k1 : a1 ≤ b1 <;> by_cases k2 : a2 ≤ b2 <;> by_cases k3 : a3 ≤ b3 <;> simp [k0, k1, k2, k3]
theorem sel4_0 (a b c d : Int) : sel4 0 a b c d = a := rfl
theorem sel4_1 (a b c d : Int) : sel4 1 a b c d = b := rfl
theorem sel4_2 (a b c d : Int) : sel4 2 a b c d = c := rfl
theorem sel4_3 (a b c d : Int) : sel4 3 a b c d = d := rfl
theorem loop_sums (x5 x11 x13 : Bool) (x7 x9 : Option Int) (a0 a1 a2 a3 b0 b1 b2 b3 s0 s1 s2 s3 d0 d1 d2 d3 x0 x1 x2 x3 y0 y1 y2 y3 : Int) :
    dunnagelaw01_VecSums.l0 5 x5 x7 x9 x11 x13 0 a0 a1 a2 a3 b0 b1 b2 b3 s0 s1 s2 s3 d0 d1 d2 d3 x0 x1 x2 x3 y0 y1 y2 y3 (mx a0 b0) (mx a1 b1) (mx a2 b2) (mx a3 b3) =
    dunnagelaw01_VecSums.l0 1 x5 x7 x9 x11 x13 4 a0 a1 a2 a3 b0 b1 b2 b3 s0 s1 s2 s3 d0 d1 d2 d3 x0 x1 x2 x3 y0 y1 y2 y3 (mx a0 b0) (mx a1 b1) (mx a2 b2) (mx a3 b3) := by
  have step : ∀ (k : Nat) (i : Int) (m a b : Int), ¬ m < a → ¬ m < b → (m = a ∨ m = b) → ∀ (t : Option Bool), (if m < a then none else if m < b then none else if m = a then t else if m = b then t else none) = t := by
    intro k i m a b h1 h2 h3 t
    rw [if_neg h1, if_neg h2]
    rcases h3 with h | h
    · rw [if_pos h]
    · rw [if_pos h]; split <;> rfl
  rw [dunnagelaw01_VecSums.l0, if_pos (by omega), if_neg (by omega), sel4_0, sel4_0, sel4_0, step 0 0 _ _ _ (mx_ge_l a0 b0) (mx_ge_r a0 b0) (mx_one a0 b0)]
  rw [show wrap64 (0 + 1) = 1 by unfold wrap64; omega, dunnagelaw01_VecSums.l0, if_pos (by omega), if_neg (by omega), sel4_1, sel4_1, sel4_1, step 0 0 _ _ _ (mx_ge_l a1 b1) (mx_ge_r a1 b1) (mx_one a1 b1)]
  rw [show wrap64 (1 + 1) = 2 by unfold wrap64; omega, dunnagelaw01_VecSums.l0, if_pos (by omega), if_neg (by omega), sel4_2, sel4_2, sel4_2, step 0 0 _ _ _ (mx_ge_l a2 b2) (mx_ge_r a2 b2) (mx_one a2 b2)]
  rw [show wrap64 (2 + 1) = 3 by unfold wrap64; omega, dunnagelaw01_VecSums.l0, if_pos (by omega), if_neg (by omega), sel4_3, sel4_3, sel4_3, step 0 0 _ _ _ (mx_ge_l a3 b3) (mx_ge_r a3 b3) (mx_one a3 b3)]
  rw [show wrap64 (3 + 1) = 4 by unfold wrap64; omega]
theorem held_sub (a0 a1 a2 a3 b0 b1 b2 b3 : Int) : ∀ y0 y1 y2 y3 (was : Bool), dunnageref01_Sub.f a0 a1 a2 a3 b0 b1 b2 b3 = some (y0, y1, y2, y3, was) →
    dunnagelaw01_held.f (each4 subF a0 a1 a2 a3 b0 b1 b2 b3).1 (each4 subF a0 a1 a2 a3 b0 b1 b2 b3).2.1 (each4 subF a0 a1 a2 a3 b0 b1 b2 b3).2.2.1 (each4 subF a0 a1 a2 a3 b0 b1 b2 b3).2.2.2.1 (each4 subF a0 a1 a2 a3 b0 b1 b2 b3).2.2.2.2 y0 y1 y2 y3 was = some true := by
  intro y0 y1 y2 y3 was h
  unfold dunnageref01_Sub.f at h
  rw [fits_some] at h
  simp only [Option.bind_some] at h
  unfold each4
  simp only [sub_ok, decide_eq_true_eq]
  by_cases k0 : b0 ≤ a0 <;> by_cases k1 : b1 ≤ a1 <;> by_cases k2 : b2 ≤ a2 <;> by_cases k3 : b3 ≤ a3 <;> simp [k0, k1, k2, k3] at h ⊢ <;> obtain ⟨rfl, rfl, rfl, rfl, rfl⟩ := h <;> simp [dunnagelaw01_held.f, subF, IntKind.wrap_u64]
theorem pureVecSums : dunnagelaw01_VecSums.Pure := by
  intro x y hx hy
  obtain ⟨h0, h1, h2, h3⟩ := hx
  obtain ⟨g0, g1, g2, g3⟩ := hy
  refine ⟨5, ?_⟩
  unfold dunnagelaw01_VecSums.f
  rw [up01]
  obtain ⟨⟨y0, y1, y2, y3, was⟩, hs⟩ : ∃ r, dunnageref01_Sub.f x.f0 x.f1 x.f2 x.f3 y.f0 y.f1 y.f2 y.f3 = some r := by
    unfold dunnageref01_Sub.f
    rw [fits_some]
    simp only [Option.bind_some]
    split <;> exact ⟨_, rfl⟩
  simp only [Option.bind_some, vec_Add.f, isU64_of h0, isU64_of h1, isU64_of h2, isU64_of h3, isU64_of g0, isU64_of g1, isU64_of g2, isU64_of g3, Bool.and_self, if_true, dunnageref01_Add.f, vec_Sub.f, hs, vec_Max.f]
  rw [loop_sums, dunnagelaw01_VecSums.l0, if_neg (by omega), if_pos rfl]
  have hm := fun (a b : Int) (ha : okI .u64 a) (hb : okI .u64 b) => add_pair a b (u64_of ha).1 (u64_of ha).2 (u64_of hb).1 (u64_of hb).2
  rw [held_each addF oneF x.f0 x.f1 x.f2 x.f3 y.f0 y.f1 y.f2 y.f3 x.f0 x.f1 x.f2 x.f3 y.f0 y.f1 y.f2 y.f3 (hm _ _ h0 g0) (hm _ _ h1 g1) (hm _ _ h2 g2) (hm _ _ h3 g3)]
  rw [Option.bind_some, if_pos rfl, held_sub _ _ _ _ _ _ _ _ _ _ _ _ _ hs, Option.bind_some, if_pos rfl, fits_same, fits_some]
  simp
end Go.Proofs.Ytppfkbigeknedaa.Q
