/- The sort of pods, plain: what it comes to is a permutation. -/
import Derived.Test.YtppfkbigeknedaaSortE
import Derived.Sort.Lot0
namespace Go.Proofs.Ytppfkbigeknedaa.Q
open Go.Shelf Go.RowKit Go.Lib Go.Sort
set_option linter.unusedVariables false
set_option linter.unusedSimpArgs false
def Pm (d d' : Array S70) : Prop := d'.size = d.size ∧ d'.toList.Perm d.toList
theorem Pm.refl (d : Array S70) : Pm d d := ⟨rfl, List.Perm.refl _⟩
theorem Pm.trans {a b c : Array S70} (h : Pm a b) (k : Pm b c) : Pm a c := ⟨k.1.trans h.1, k.2.trans h.2⟩
theorem pm_swp (d : Array S70) (i j : Nat) (hi : i < d.size) (hj : j < d.size) : Pm d (swp d i j) := by
  have h := swp_permIn d 0 d.size i j (Nat.zero_le _) hi (Nat.zero_le _) hj (Nat.le_refl _)
  refine ⟨h.1, ?_⟩
  have h2 := h.2.2
  have e : ∀ x : Array S70, x.size = d.size → x.extract 0 d.size = x := fun x hx => by rw [← hx]; simp
  rw [e _ h.1, e _ rfl] at h2
  exact h2
theorem pm_swr (a b : Nat) : ∀ (n i : Nat) (d : Array S70), a + i + n ≤ d.size → b + i + n ≤ d.size → Pm d (swr a b n i d)
  | 0, _, d, _, _ => Pm.refl d
  | n + 1, i, d, h1, h2 => by
    rw [swr]
    have hs := pm_swp d (a + i) (b + i) (by omega) (by omega)
    exact hs.trans (pm_swr a b n (i + 1) _ (by rw [hs.1]; omega) (by rw [hs.1]; omega))
theorem pm_rotF (m : Nat) : ∀ (k i j : Nat) (d : Array S70), i ≤ m → m + j ≤ d.size → Pm d (rotF m k i j d)
  | 0, _, _, d, _, _ => Pm.refl d
  | k + 1, i, j, d, h1, h2 => by
    unfold rotF
    split
    · exact pm_swr _ _ _ _ _ (by omega) (by omega)
    · split
      · have hs := pm_swr (m - i) m j 0 d (by omega) (by omega)
        exact hs.trans (pm_rotF m k _ _ _ (by omega) (by rw [hs.1]; omega))
      · have hs := pm_swr (m - i) (m + j - i) i 0 d (by omega) (by omega)
        exact hs.trans (pm_rotF m k _ _ _ (by omega) (by rw [hs.1]; omega))
theorem pm_swUp : ∀ (n k : Nat) (d : Array S70), (n = 0 ∨ k + n < d.size) → Pm d (swUp n k d)
  | 0, _, d, _ => Pm.refl d
  | n + 1, k, d, h => by
    rw [swUp]
    have hs := pm_swp d k (k + 1) (by omega) (by omega)
    exact hs.trans (pm_swUp n (k + 1) _ (by rw [hs.1]; omega))
theorem pm_swDn : ∀ (n k : Nat) (d : Array S70), (n = 0 ∨ n ≤ k ∧ k < d.size) → Pm d (swDn n k d)
  | 0, _, d, _ => Pm.refl d
  | n + 1, k, d, h => by
    rw [swDn]
    have hs := pm_swp d k (k - 1) (by omega) (by omega)
    exact hs.trans (pm_swDn n (k - 1) _ (by rw [hs.1]; omega))
theorem pm_symM (lt : S70 → S70 → Bool) : ∀ (k a m b : Nat) (d : Array S70), a < m → m < b → b ≤ d.size → Pm d (symM lt k a m b d)
  | 0, _, _, _, d, _, _, _ => Pm.refl d
  | k + 1, a, m, b, d, h1, h2, h3 => by
    unfold symM
    split
    · have := bsF_in (fun h => lt d[h]! d[a]!) (b - m) m b (by omega)
      exact pm_swUp _ _ _ (by omega)
    split
    · have := bsF_in (fun h => !lt d[m]! d[h]!) (m - a) a m (by omega)
      exact pm_swDn _ _ _ (by omega)
    dsimp only
    generalize hs0 : (if (a + b) / 2 < m then (a + b) / 2 + m - b else a) = s0
    generalize hr0 : (if (a + b) / 2 < m then (a + b) / 2 else m) = r0
    have hsr : a ≤ s0 ∧ s0 ≤ r0 ∧ r0 ≤ m ∧ r0 ≤ (a + b) / 2 := by
      subst hs0 hr0
      split <;> omega
    have hin := bsF_in (fun c => !lt d[(a + b) / 2 + m - 1 - c]! d[c]!) (r0 - s0) s0 r0 (by omega)
    generalize bsF (fun c => !lt d[(a + b) / 2 + m - 1 - c]! d[c]!) (r0 - s0) s0 r0 = s at hin ⊢
    generalize hmid : (a + b) / 2 = mid at *
    have hlow : mid + m - s ≤ b := by
      by_cases hc : mid < m
      · rw [if_pos hc] at hs0; omega
      · rw [if_neg hc] at hs0 hr0; omega
    have c1 : Pm d (if s < m ∧ m < mid + m - s then rotF m (mid + m - s - s) (m - s) (mid + m - s - m) d else d) := by
      split
      · exact pm_rotF _ _ _ _ _ (by omega) (by omega)
      · exact Pm.refl _
    generalize (if s < m ∧ m < mid + m - s then rotF m (mid + m - s - s) (m - s) (mid + m - s - m) d else d) = d1 at c1 ⊢
    have c2 : Pm d1 (if a < s ∧ s < mid then symM lt k a s mid d1 else d1) := by
      split
      · exact pm_symM lt k _ _ _ _ (by omega) (by omega) (by rw [c1.1]; omega)
      · exact Pm.refl _
    generalize (if a < s ∧ s < mid then symM lt k a s mid d1 else d1) = d2 at c2 ⊢
    refine c1.trans (c2.trans ?_)
    split
    · exact pm_symM lt k _ _ _ _ (by omega) (by omega) (by rw [c2.1, c1.1]; omega)
    · exact Pm.refl _
theorem pm_insInner (lt : S70 → S70 → Bool) (a : Nat) : ∀ (j : Nat) (d : Array S70), j < d.size → Pm d (insInner lt a j d)
  | 0, d, _ => Pm.refl d
  | j + 1, d, h => by
    rw [insInner]
    split
    · have hs := pm_swp d (j + 1) j h (by omega)
      exact hs.trans (pm_insInner lt a j _ (by rw [hs.1]; omega))
    · exact Pm.refl d
theorem pm_insOuter (lt : S70 → S70 → Bool) (a b : Nat) : ∀ (n i : Nat) (d : Array S70), b - i ≤ n → b ≤ d.size → Pm d (insOuter lt a b i d)
  | 0, i, d, h, hb => by rw [insOuter, if_neg (by omega)]; exact Pm.refl d
  | n + 1, i, d, h, hb => by
    rw [insOuter]
    split
    · have hs := pm_insInner lt a i d (by omega)
      exact hs.trans (pm_insOuter lt a b n (i + 1) _ (by omega) (by rw [hs.1]; omega))
    · exact Pm.refl d
theorem pm_ins (lt : S70 → S70 → Bool) (d : Array S70) (a b : Nat) (hb : b ≤ d.size) : Pm d (insertionSort lt d a b) := pm_insOuter lt a b _ _ d (Nat.le_refl _) hb
end Go.Proofs.Ytppfkbigeknedaa.Q
