/- What the vectors' functions come to, in plain numbers: the document's halves add and multiply as numbers do. -/
import Derived.Test.YtppfkbigeknedaaOpen
import Derived.Test.YtppfkbigeknedaaQvecTimes
import Derived.Test.YtppfkbigeknedaaQdunnagelaw01up
import Derived.Test.YtppfkbigeknedaaQdunnagelaw01held
import Derived.Test.YtppfkbigeknedaaQdunnageref01Times
import Derived.Test.YtppfkbigeknedaaQdunnageref01Add
import Derived.Test.YtppfkbigeknedaaQvecAdd
namespace Go.Proofs.Ytppfkbigeknedaa.Q
open Go.RowKit Go.Proofs.YtppfkbigeknedaaW.PrintWords
set_option linter.unusedVariables false
set_option linter.unusedSimpArgs false
theorem half_spec (a : Int) (h : 0 ≤ a) (h' : a < 18446744073709551616) : dunnageref01_half.f a false = some (a % 4294967296) ∧ dunnageref01_half.f a true = some (a / 4294967296) := by
  constructor
  · simp [dunnageref01_half.f, Int.tmod_eq_emod_of_nonneg h]
  · simp only [dunnageref01_half.f, if_true, Int.tdiv_eq_ediv_of_nonneg h, IntKind.wrap_u64]
    congr 1; omega
theorem one_spec (a b : Int) (ha : 0 ≤ a) (ha' : a < 18446744073709551616) (hb : 0 ≤ b) (hb' : b < 18446744073709551616) :
    oneF a b = if a + b < 18446744073709551616 then (a + b, true) else (0, false) := by
  have e : dunnageref01_one.f a b = some (if a + b < 18446744073709551616 then (a + b, true) else (0, false)) := by
    unfold dunnageref01_one.f
    rw [(half_spec a ha ha').1, (half_spec a ha ha').2, (half_spec b hb hb').1, (half_spec b hb hb').2]
    simp only [Option.bind_some, IntKind.wrap_u64]
    have e1 : (a % 4294967296 + b % 4294967296) % 18446744073709551616 = a % 4294967296 + b % 4294967296 := by omega
    rw [e1, Int.tdiv_eq_ediv_of_nonneg (by omega), Int.tmod_eq_emod_of_nonneg (by omega)]
    by_cases h : a + b < 18446744073709551616
    · rw [if_pos h, if_neg (by omega)]
      congr 2; omega
    · rw [if_neg h, if_pos (by omega)]
  rw [oneF, e]; rfl
theorem mul_bound (x y : Int) (hx : 0 ≤ x) (hx' : x ≤ 4294967295) (hy : 0 ≤ y) (hy' : y ≤ 4294967295) : 0 ≤ x * y ∧ x * y ≤ 18446744065119617025 :=
  ⟨Int.mul_nonneg hx hy, Int.le_trans (Int.mul_le_mul hx' hy' hy (by omega)) (by omega)⟩
theorem times_spec (a b : Int) (ha : 0 ≤ a) (ha' : a < 18446744073709551616) (hb : 0 ≤ b) (hb' : b < 18446744073709551616) :
    timesF a b = if a * b < 18446744073709551616 then (a * b, true) else (0, false) := by
  obtain ⟨A1, hA1⟩ : ∃ x, x = a / 4294967296 := ⟨_, rfl⟩
  obtain ⟨A0, hA0⟩ : ∃ x, x = a % 4294967296 := ⟨_, rfl⟩
  obtain ⟨B1, hB1⟩ : ∃ x, x = b / 4294967296 := ⟨_, rfl⟩
  obtain ⟨B0, hB0⟩ : ∃ x, x = b % 4294967296 := ⟨_, rfl⟩
  have p := mul_bound A1 B0 (by omega) (by omega) (by omega) (by omega)
  have q := mul_bound A0 B1 (by omega) (by omega) (by omega) (by omega)
  have r := mul_bound A0 B0 (by omega) (by omega) (by omega) (by omega)
  have s := mul_bound A1 B1 (by omega) (by omega) (by omega) (by omega)
  have hs0 : A1 = 0 ∨ B1 = 0 → A1 * B1 = 0 := fun h => by rcases h with h | h <;> rw [h] <;> simp
  have hs1 : 0 < A1 → 0 < B1 → 0 < A1 * B1 := fun h k => Int.mul_pos h k
  have e : a * b = A1 * B1 * 18446744073709551616 + (A1 * B0 + A0 * B1) * 4294967296 + A0 * B0 := by
    have ea : a = A1 * 4294967296 + A0 := by omega
    have eb : b = B1 * 4294967296 + B0 := by omega
    rw [ea, eb]; grind
  have k : dunnageref01_times.f 2 a b = some (if a * b < 18446744073709551616 then (a * b, true) else (0, false)) := by
    simp only [dunnageref01_times.f, dunnageref01_times.j0, dunnageref01_times.j1, (half_spec a ha ha').1, (half_spec a ha ha').2, (half_spec b hb hb').1, (half_spec b hb hb').2, Option.bind_some, oneF_eq, IntKind.wrap_u64, ← hA1, ← hA0, ← hB1, ← hB0]
    rw [e]
    generalize A1 * B1 = S at *
    generalize A1 * B0 = X at *
    generalize A0 * B1 = Y at *
    generalize A0 * B0 = R at *
    rw [show X % 18446744073709551616 = X by omega, show Y % 18446744073709551616 = Y by omega, show R % 18446744073709551616 = R by omega, one_spec X Y (by omega) (by omega) (by omega) (by omega)]
    by_cases h12 : 0 < A1 ∧ 0 < B1
    · have := hs1 h12.1 h12.2
      rw [if_neg (show ¬ S * 18446744073709551616 + (X + Y) * 4294967296 + R < 18446744073709551616 by omega)]
      simp [h12.1, h12.2]
    · have hS : S = 0 := hs0 (by omega)
      subst hS
      have hz : (if A1 > 0 then decide (B1 > 0) else false) = false := by
        split
        · simp; omega
        · rfl
      by_cases h3 : X + Y < 4294967296
      · rw [if_pos (show X + Y < 18446744073709551616 by omega)]
        rw [show (X + Y) * 4294967296 % 18446744073709551616 = (X + Y) * 4294967296 by omega, one_spec ((X + Y) * 4294967296) R (by omega) (by omega) (by omega) (by omega)]
        by_cases hA : A1 > 0 <;> simp [hA, show ¬ (4294967296 ≤ X + Y) by omega] <;> (try (have : ¬ 0 < B1 := by omega); simp [this]) <;> split <;> simp_all
      · by_cases h4 : X + Y < 18446744073709551616
        · rw [if_pos h4, if_neg (show ¬ 0 * 18446744073709551616 + (X + Y) * 4294967296 + R < 18446744073709551616 by omega)]
          by_cases hA : A1 > 0 <;> simp [hA, show 4294967296 ≤ X + Y by omega] <;> (try (have : ¬ 0 < B1 := by omega); simp [this])
        · rw [if_neg h4, if_neg (show ¬ 0 * 18446744073709551616 + (X + Y) * 4294967296 + R < 18446744073709551616 by omega)]
          by_cases hA : A1 > 0 <;> simp [hA] <;> (try (have : ¬ 0 < B1 := by omega); simp [this])
  rw [timesF, k]; rfl
/-- The answer of the document's own and the program's agree number by number: then 'held' says yes. -/
theorem held_each (f g : Int → Int → Int × Bool) (a0 a1 a2 a3 b0 b1 b2 b3 c0 c1 c2 c3 d0 d1 d2 d3 : Int)
    (h0 : g c0 d0 = if (f a0 b0).2 = true then ((f a0 b0).1, true) else (0, false)) (h1 : g c1 d1 = if (f a1 b1).2 = true then ((f a1 b1).1, true) else (0, false))
    (h2 : g c2 d2 = if (f a2 b2).2 = true then ((f a2 b2).1, true) else (0, false)) (h3 : g c3 d3 = if (f a3 b3).2 = true then ((f a3 b3).1, true) else (0, false)) :
    dunnagelaw01_held.f (each4 f a0 a1 a2 a3 b0 b1 b2 b3).1 (each4 f a0 a1 a2 a3 b0 b1 b2 b3).2.1 (each4 f a0 a1 a2 a3 b0 b1 b2 b3).2.2.1 (each4 f a0 a1 a2 a3 b0 b1 b2 b3).2.2.2.1 (each4 f a0 a1 a2 a3 b0 b1 b2 b3).2.2.2.2
      (each4b g c0 c1 c2 c3 d0 d1 d2 d3).1 (each4b g c0 c1 c2 c3 d0 d1 d2 d3).2.1 (each4b g c0 c1 c2 c3 d0 d1 d2 d3).2.2.1 (each4b g c0 c1 c2 c3 d0 d1 d2 d3).2.2.2.1 (each4b g c0 c1 c2 c3 d0 d1 d2 d3).2.2.2.2 = some true := by
  unfold each4 each4b
  rw [h0, h1, h2, h3]
  by_cases k0 : (f a0 b0).2 = true <;> by_cases k1 : (f a1 b1).2 = true <;> by_cases k2 : (f a2 b2).2 = true <;> by_cases k3 : (f a3 b3).2 = true <;>
    simp [k0, k1, k2, k3, dunnagelaw01_held.f]
theorem add_pair (a b : Int) (ha : 0 ≤ a) (ha' : a < 18446744073709551616) (hb : 0 ≤ b) (hb' : b < 18446744073709551616) : oneF a b = if (addF a b).2 = true then ((addF a b).1, true) else (0, false) := by
  rw [one_spec a b ha ha' hb hb']
  by_cases h : a + b < 18446744073709551616
  · simp only [addF, h, if_true, decide_true]
    congr 1; omega
  · simp [addF, h]
theorem mul_pair (a n : Int) (ha : 0 ≤ a) (ha' : a < 18446744073709551616) (hb : 0 ≤ n) (hb' : n < 18446744073709551616) : timesF a n = if (mulF n a a).2 = true then ((mulF n a a).1, true) else (0, false) := by
  rw [times_spec a n ha ha' hb hb']
  have := Int.mul_nonneg ha hb
  by_cases h : a * n < 18446744073709551616
  · simp only [mulF, h, if_true, decide_true]
    congr 1; omega
  · simp [mulF, h]
theorem up01 : dunnagelaw01_up.f = some true := by decide
theorem u64_of {n : Int} (h : okI .u64 n) : 0 ≤ n ∧ n < 18446744073709551616 := by have := Go.bounds_u64 h; omega
theorem isU64_of {n : Int} (h : okI .u64 n) : isU64 n = true := isU64_iff.2 (u64_of h)
end Go.Proofs.Ytppfkbigeknedaa.Q
