/- VecAll, in plain numbers: the two sums go hand in hand. -/
import Derived.Test.YtppfkbigeknedaaStatVecAll
import Derived.Test.YtppfkbigeknedaaVecLaws
namespace Go.Proofs.Ytppfkbigeknedaa.Q
open Go.RowKit Go.Proofs.YtppfkbigeknedaaW.PrintWords
def isU (x : Int) : Prop := 0 ≤ x ∧ x < 18446744073709551616
theorem add_cases (a0 a1 a2 a3 b0 b1 b2 b3 : Int) (ha0 : isU a0) (ha1 : isU a1) (ha2 : isU a2) (ha3 : isU a3) (hb0 : isU b0) (hb1 : isU b1) (hb2 : isU b2) (hb3 : isU b3) :
    (∃ s0 s1 s2 s3, isU s0 ∧ isU s1 ∧ isU s2 ∧ isU s3 ∧ each4 addF a0 a1 a2 a3 b0 b1 b2 b3 = (s0, s1, s2, s3, none) ∧ each4b oneF a0 a1 a2 a3 b0 b1 b2 b3 = (s0, s1, s2, s3, true)) ∨
    (each4 addF a0 a1 a2 a3 b0 b1 b2 b3 = (0, 0, 0, 0, some 8) ∧ each4b oneF a0 a1 a2 a3 b0 b1 b2 b3 = (0, 0, 0, 0, false)) := by
  have h0 := add_pair a0 b0 ha0.1 ha0.2 hb0.1 hb0.2
  have h1 := add_pair a1 b1 ha1.1 ha1.2 hb1.1 hb1.2
  have h2 := add_pair a2 b2 ha2.1 ha2.2 hb2.1 hb2.2
  have h3 := add_pair a3 b3 ha3.1 ha3.2 hb3.1 hb3.2
  have hr : ∀ x y, isU (addF x y).1 := fun x y => by unfold isU addF; simp only; omega
  unfold each4 each4b
  rw [h0, h1, h2, h3]
  by_cases k0 : (addF a0 b0).2 = true
  · by_cases k1 : (addF a1 b1).2 = true
    · by_cases k2 : (addF a2 b2).2 = true
      · by_cases k3 : (addF a3 b3).2 = true
        · exact .inl ⟨_, _, _, _, hr a0 b0, hr a1 b1, hr a2 b2, hr a3 b3, by simp [k0, k1, k2, k3], by simp [k0, k1, k2, k3]⟩
        · exact .inr (by simp [k0, k1, k2, k3])
      · exact .inr (by simp [k0, k1, k2])
    · exact .inr (by simp [k0, k1])
  · exact .inr (by simp [k0])
theorem add_f (a0 a1 a2 a3 b0 b1 b2 b3 : Int) (ha0 : isU a0) (ha1 : isU a1) (ha2 : isU a2) (ha3 : isU a3) (hb0 : isU b0) (hb1 : isU b1) (hb2 : isU b2) (hb3 : isU b3) :
    vec_Add.f a0 a1 a2 a3 b0 b1 b2 b3 = some (each4 addF a0 a1 a2 a3 b0 b1 b2 b3) := by
  unfold vec_Add.f
  rw [if_pos]
  simp only [Bool.and_eq_true]
  exact ⟨⟨⟨⟨⟨⟨⟨isU64_iff.2 ha0, isU64_iff.2 ha1⟩, isU64_iff.2 ha2⟩, isU64_iff.2 ha3⟩, isU64_iff.2 hb0⟩, isU64_iff.2 hb1⟩, isU64_iff.2 hb2⟩, isU64_iff.2 hb3⟩
theorem rd33 (l : List S33) (h : ∀ x ∈ l, ok33 x) (i : Int) (h0 : 0 ≤ i) (h1 : i < (l.length : Int)) : isU (rd_T33 l i).f0 ∧ isU (rd_T33 l i).f1 ∧ isU (rd_T33 l i).f2 ∧ isU (rd_T33 l i).f3 := by
  have hi : i.toNat < l.length := by omega
  have e : rd_T33 l i = l[i.toNat] := by unfold rd_T33; rw [List.getD_eq_getElem?_getD, List.getElem?_eq_getElem hi]; rfl
  rw [e]
  obtain ⟨k0, k1, k2, k3⟩ := h _ (List.getElem_mem hi)
  exact ⟨u64_of k0, u64_of k1, u64_of k2, u64_of k3⟩
def Tells (r : Int × Int × Int × Int × Option Int) (q : Int × Int × Int × Int × Bool) : Prop :=
  (∃ s0 s1 s2 s3, r = (s0, s1, s2, s3, none) ∧ q = (s0, s1, s2, s3, true)) ∨ (r = (0, 0, 0, 0, some 8) ∧ q = (0, 0, 0, 0, false))
theorem sums (l : List S33) (h : ∀ x ∈ l, ok33 x) (hl : l.length ≤ 9223372036854775807) : ∀ (d k : Nat) (i : Int), 0 ≤ i → i + d = l.length → d + 1 < k → ∀ v0 v1 v2 v3, isU v0 → isU v1 → isU v2 → isU v3 →
    ∃ r q, vec_Sum.l0 k l (l.length : Int) i v0 v1 v2 v3 = some r ∧ dunnageref01_Sum.l0 k l true i v0 v1 v2 v3 = some q ∧ Tells r q := by
  intro d
  induction d with
  | zero =>
    intro k i h0 hd hk v0 v1 v2 v3 g0 g1 g2 g3
    obtain ⟨k, rfl⟩ : ∃ m, k = m + 1 := ⟨k - 1, by omega⟩
    refine ⟨_, _, ?_, ?_, .inl ⟨v0, v1, v2, v3, rfl, rfl⟩⟩
    · simp only [vec_Sum.l0]; rw [if_neg (by omega)]
    · simp only [dunnageref01_Sum.l0]; rw [if_neg (by omega)]
  | succ d ih =>
    intro k i h0 hd hk v0 v1 v2 v3 g0 g1 g2 g3
    obtain ⟨k, rfl⟩ : ∃ m, k = m + 1 := ⟨k - 1, by omega⟩
    have hlt : i < (l.length : Int) := by omega
    have hw : wrap64 (i + 1) = i + 1 := by unfold wrap64; omega
    obtain ⟨r0, r1, r2, r3⟩ := rd33 l h i h0 hlt
    simp only [vec_Sum.l0, dunnageref01_Sum.l0]
    rw [if_pos hlt, if_pos h0, if_pos hlt, if_pos hlt, if_pos trivial, if_pos h0, add_f _ _ _ _ _ _ _ _ g0 g1 g2 g3 r0 r1 r2 r3]
    simp only [dunnageref01_Add.f, Option.bind_some, hw]
    rcases add_cases v0 v1 v2 v3 _ _ _ _ g0 g1 g2 g3 r0 r1 r2 r3 with ⟨s0, s1, s2, s3, u0, u1, u2, u3, e, f⟩ | ⟨e, f⟩
    · rw [e, f]
      simp only [Option.isNone_none, if_true]
      exact ih k (i + 1) (by omega) (by omega) (by omega) s0 s1 s2 s3 u0 u1 u2 u3
    · rw [e, f]
      refine ⟨_, _, rfl, ?_, .inr ⟨rfl, rfl⟩⟩
      obtain ⟨k, rfl⟩ : ∃ m, k = m + 1 := ⟨k - 1, by omega⟩
      simp only [dunnageref01_Sum.l0]
      split
      · simp
      · rfl
theorem pureVecAll : dunnagelaw01_VecAll.Pure := by
  intro l hl
  obtain ⟨hlen, hok⟩ := hl
  unfold maxLen at hlen
  have z : isU 0 := ⟨by omega, by omega⟩
  obtain ⟨r, q, h1, h2, h3⟩ := sums l hok (by omega) l.length (l.length + 2) 0 (by omega) (by omega) (by omega) 0 0 0 0 z z z z
  refine ⟨l.length + 2, ?_⟩
  unfold dunnagelaw01_VecAll.f
  rw [up01]
  simp only [Option.bind_some]
  split
  · rfl
  · unfold vec_Sum.f dunnageref01_Sum.f
    rw [h1, h2]
    simp only [Option.bind_some, if_true]
    rcases h3 with ⟨s0, s1, s2, s3, rfl, rfl⟩ | ⟨rfl, rfl⟩
    · simp [dunnagelaw01_held.f]
    · simp [dunnagelaw01_held.f]
end Go.Proofs.Ytppfkbigeknedaa.Q
