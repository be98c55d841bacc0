/- The document's Same of one list with itself; the contract by it. -/
import Derived.Test.YtppfkbigeknedaaVSP
import Derived.Test.YtppfkbigeknedaaVQdunnageref22Same
namespace Go.Proofs.Ytppfkbigeknedaa.Q
open Go.RowKit Go.Proofs.YtppfkbigeknedaaW.PrintWords
set_option linter.unusedVariables false
set_option linter.unusedSimpArgs false
theorem w64_next (i n : Nat) (h : i < n) (hn : n ≤ 1000000) : wrap64 ((i : Int) + 1) = ((i + 1 : Nat) : Int) := by
  unfold wrap64; omega
theorem sameM_ev (l : List S130) (hl : l.length ≤ 1000000) : Ev (fun k => dunnageref04_SameMoves.f k l l) true := by
  have h : ∀ n i : Nat, i + n = l.length → Ev (fun k => dunnageref04_SameMoves.l0 k l l (i : Int)) true := by
    intro n
    induction n with
    | zero =>
      intro i hi
      refine ⟨1, fun k hk => ?_⟩
      obtain ⟨k, rfl⟩ : ∃ j, k = j + 1 := ⟨k - 1, by omega⟩
      simp only [dunnageref04_SameMoves.l0]
      rw [if_neg (by omega)]
    | succ n ih =>
      intro i hi
      refine Ev.step (f := fun k => dunnageref04_SameMoves.l0 k l l ((i + 1 : Nat) : Int)) (fun k => ?_) (ih (i + 1) (by omega))
      simp only [dunnageref04_SameMoves.l0]
      rw [if_pos (by omega), if_pos (by omega), if_pos (by omega), w64_next i l.length (by omega) hl]
      simp
  unfold dunnageref04_SameMoves.f
  exact Ev.congr (fun k => if_pos rfl) (h l.length 0 (by omega))
theorem same_ev (l : List S60) (hl : l.length ≤ 1000000) (hm : ∀ e ∈ l, e.f2.length ≤ 1000000) : Ev (fun k => dunnageref22_Same.f k l l) true := by
  have h : ∀ n i : Nat, i + n = l.length → Ev (fun k => dunnageref22_Same.l0 k l l (i : Int)) true := by
    intro n
    induction n with
    | zero =>
      intro i hi
      refine ⟨1, fun k hk => ?_⟩
      obtain ⟨k, rfl⟩ : ∃ j, k = j + 1 := ⟨k - 1, by omega⟩
      simp only [dunnageref22_Same.l0]
      rw [if_neg (by omega)]
    | succ n ih =>
      intro i hi
      have hmem : rd_T60 l (i : Int) ∈ l := by
        unfold rd_T60
        rw [Int.toNat_natCast, List.getD_eq_getElem?_getD, List.getElem?_eq_getElem (by omega), Option.getD_some]
        exact List.getElem_mem _
      refine Ev.step (f := fun k => (dunnageref04_SameMoves.f k (rd_T60 l (i : Int)).f2 (rd_T60 l (i : Int)).f2).bind fun t => if t = true then dunnageref22_Same.l0 k l l ((i + 1 : Nat) : Int) else some false) (fun k => ?_) (Ev.bind (sameM_ev _ (hm _ hmem)) ?_)
      · simp only [dunnageref22_Same.l0]
        rw [if_pos (by omega), if_pos (by omega), if_pos (by omega), w64_next i l.length (by omega) hl]
        simp
      · exact Ev.congr (fun k => if_pos rfl) (ih (i + 1) (by omega))
  unfold dunnageref22_Same.f
  exact Ev.congr (fun k => if_pos rfl) (h l.length 0 (by omega))
theorem same_calls {W : World} {A0 A1 : Option Addr} {c0 c1 : Nat} {l : List S60} (hr0 : Kd.C k60 W A0 l.length l) (hc0 : l.length ≤ c0) (hr1 : Kd.C k60 W A1 l.length l) (hc1 : l.length ≤ c1) (hl : l.length ≤ 1000000) (hm : ∀ e ∈ l, e.f2.length ≤ 1000000) :
    Calls Try.prog 57 #[.slice A0 l.length c0, .slice A1 l.length c1] W fun e w' => e = .returned (.bool true) ∧ Below W.heap.size W w' := by
  obtain ⟨k, hk⟩ := (same_ev l hl hm).rounds
  refine (dunnageref22_Same.calls k A0 c0 l A1 c1 l true W hr0 hc0 hr1 hc1 hk).mono ?_
  rintro e w1 ⟨he, hb⟩
  exact ⟨he, hb.below⟩
end Go.Proofs.Ytppfkbigeknedaa.Q
