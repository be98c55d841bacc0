/- What is tighter, in plain numbers: the program's order of sorted fours and the document's are one; it is a strict order. -/
import Derived.Test.YtppfkbigeknedaaUTight
import Derived.Test.YtppfkbigeknedaaUDown
namespace Go.Proofs.Ytppfkbigeknedaa.Q
open Go.RowKit Go.Sort
set_option linter.unusedVariables false
set_option linter.unusedSimpArgs false
theorem c4_lex (x0 x1 x2 x3 y0 y1 y2 y3 : Int) : decide (c4 x0 x1 x2 x3 y0 y1 y2 y3 < 0) = lexF x0 x1 x2 x3 y0 y1 y2 y3 := by
  have e : ∀ x y : Int, (cmpF y x = 0 ↔ x = y) ∧ (cmpF y x < 0 ↔ x < y) := fun x y => by
    unfold cmpF
    by_cases h : x < y
    · rw [if_pos h]; omega
    · rw [if_neg h]
      by_cases h2 : y < x
      · rw [if_pos h2]; omega
      · rw [if_neg h2]; omega
  unfold c4 lexF
  by_cases h0 : x0 = y0
  · rw [if_pos ((e x0 y0).1.2 h0), if_neg (show ¬ (x0 ≠ y0) from fun h => h h0)]
    by_cases h1 : x1 = y1
    · rw [if_pos ((e x1 y1).1.2 h1), if_neg (show ¬ (x1 ≠ y1) from fun h => h h1)]
      by_cases h2 : x2 = y2
      · rw [if_pos ((e x2 y2).1.2 h2), if_neg (show ¬ (x2 ≠ y2) from fun h => h h2)]
        by_cases h3 : x3 = y3
        · rw [if_pos ((e x3 y3).1.2 h3), if_neg (show ¬ (x3 ≠ y3) from fun h => h h3)]; decide
        · rw [if_neg (fun h => h3 ((e x3 y3).1.1 h)), if_pos h3]
          exact decide_eq_decide.2 (e x3 y3).2
      · rw [if_neg (fun h => h2 ((e x2 y2).1.1 h)), if_pos h2]
        exact decide_eq_decide.2 (e x2 y2).2
    · rw [if_neg (fun h => h1 ((e x1 y1).1.1 h)), if_pos h1]
      exact decide_eq_decide.2 (e x1 y1).2
  · rw [if_neg (fun h => h0 ((e x0 y0).1.1 h)), if_pos h0]
    exact decide_eq_decide.2 (e x0 y0).2
theorem cs_spec (a b : Int) : (cs a b).2 ≤ (cs a b).1 ∧ (((cs a b).1 = a ∧ (cs a b).2 = b) ∨ ((cs a b).1 = b ∧ (cs a b).2 = a)) := by
  unfold cs
  split
  · exact ⟨by simp only; omega, Or.inr ⟨rfl, rfl⟩⟩
  · exact ⟨by simp only; omega, Or.inl ⟨rfl, rfl⟩⟩
def dl (d : Int × Int × Int × Int) : List Int := [d.1, d.2.1, d.2.2.1, d.2.2.2]
theorem down_spec (a0 a1 a2 a3 : Int) : (dl (downF a0 a1 a2 a3)).Perm [a0, a1, a2, a3] ∧ (downF a0 a1 a2 a3).2.1 ≤ (downF a0 a1 a2 a3).1 ∧ (downF a0 a1 a2 a3).2.2.1 ≤ (downF a0 a1 a2 a3).2.1 ∧ (downF a0 a1 a2 a3).2.2.2 ≤ (downF a0 a1 a2 a3).2.2.1 := by
  unfold downF
  have h0 := cs_spec a0 a1
  obtain ⟨⟨x0, y0⟩, e0⟩ : ∃ z, z = cs a0 a1 := ⟨_, rfl⟩
  simp only [← e0] at h0 ⊢
  have h1 := cs_spec x0 a2
  obtain ⟨⟨x1, y1⟩, e1⟩ : ∃ z, z = cs x0 a2 := ⟨_, rfl⟩
  simp only [← e1] at h1 ⊢
  have h2 := cs_spec x1 a3
  obtain ⟨⟨x2, y2⟩, e2⟩ : ∃ z, z = cs x1 a3 := ⟨_, rfl⟩
  simp only [← e2] at h2 ⊢
  have h3 := cs_spec y0 y1
  obtain ⟨⟨x3, y3⟩, e3⟩ : ∃ z, z = cs y0 y1 := ⟨_, rfl⟩
  simp only [← e3] at h3 ⊢
  have h4 := cs_spec x3 y2
  obtain ⟨⟨x4, y4⟩, e4⟩ : ∃ z, z = cs x3 y2 := ⟨_, rfl⟩
  simp only [← e4] at h4 ⊢
  have h5 := cs_spec y3 y4
  obtain ⟨⟨x5, y5⟩, e5⟩ : ∃ z, z = cs y3 y4 := ⟨_, rfl⟩
  simp only [← e5] at h5 ⊢
  clear e0 e1 e2 e3 e4 e5
  refine ⟨?_, by omega, by omega, by omega⟩
  unfold dl
  rw [List.perm_iff_count]
  intro z
  have k : ∀ {a b x y : Int}, ((x = a ∧ y = b) ∨ (x = b ∧ y = a)) → (if x == z then 1 else 0) + (if y == z then 1 else 0) = (if a == z then 1 else 0) + (if b == z then 1 else 0) := by
    rintro a b x y (⟨rfl, rfl⟩ | ⟨rfl, rfl⟩)
    · rfl
    · exact Nat.add_comm _ _
  have k0 := k h0.2
  have k1 := k h1.2
  have k2 := k h2.2
  have k3 := k h3.2
  have k4 := k h4.2
  have k5 := k h5.2
  simp only [List.count_cons, List.count_nil]
  omega
theorem srt_down (a0 a1 a2 a3 : Int) : (srt #[a0, a1, a2, a3]).toList = dl (downF a0 a1 a2 a3) := by
  have hl : ∀ x y, ltOf cmpF x y = decide (y < x) := fun x y => by
    unfold ltOf cmpF
    by_cases h : y < x
    · rw [if_pos h]; simp [h]
    · rw [if_neg h]; split <;> simp [h]
  have hu := sorted_unique_holds (lt := ltOf cmpF) cmpF_swo (fun x y h1 h2 => by rw [hl] at h1 h2; simp at h1 h2; omega)
  obtain ⟨p1, s1⟩ := srt_holds #[a0, a1, a2, a3] rfl
  obtain ⟨p2, g0, g1, g2⟩ := down_spec a0 a1 a2 a3
  have e1 := hu #[a0, a1, a2, a3] _ p1 s1
  obtain ⟨⟨d0, d1, d2, d3⟩, hd⟩ : ∃ z, z = downF a0 a1 a2 a3 := ⟨_, rfl⟩
  rw [← hd] at p2 g0 g1 g2 ⊢
  have e2 := hu #[a0, a1, a2, a3] #[d0, d1, d2, d3] ⟨rfl, fun i hi => by
      have h4 : 4 ≤ i := by have : 4 ≤ i ∨ i < 0 := by (rcases hi with h | h); exact Or.inr h; exact Or.inl h
                            omega
      rw [getElem!_neg _ _ (by show ¬ i < 4; omega), getElem!_neg _ _ (by show ¬ i < 4; omega)], by simpa [dl] using p2⟩
    (fun i j _ hij hj => by
      have hj : j < 4 := hj
      rw [hl]
      have : (i = 0 ∧ j = 1) ∨ (i = 0 ∧ j = 2) ∨ (i = 0 ∧ j = 3) ∨ (i = 1 ∧ j = 2) ∨ (i = 1 ∧ j = 3) ∨ (i = 2 ∧ j = 3) := by omega
      rcases this with ⟨rfl, rfl⟩ | ⟨rfl, rfl⟩ | ⟨rfl, rfl⟩ | ⟨rfl, rfl⟩ | ⟨rfl, rfl⟩ | ⟨rfl, rfl⟩ <;> simp at g0 g1 g2 ⊢ <;> omega)
  rw [e1, ← e2]
  rfl
theorem tight_eq (a0 a1 a2 a3 b0 b1 b2 b3 : Int) : tightF a0 a1 a2 a3 b0 b1 b2 b3 = tighterF a0 a1 a2 a3 b0 b1 b2 b3 := by
  unfold tightF tighterF
  rw [srt_down, srt_down]
  exact c4_lex _ _ _ _ _ _ _ _
end Go.Proofs.Ytppfkbigeknedaa.Q
