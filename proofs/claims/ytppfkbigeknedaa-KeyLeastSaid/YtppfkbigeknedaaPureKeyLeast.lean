/- KeyLeast, in plain lists. -/
import Derived.Test.YtppfkbigeknedaaStatKeyLeast
import Derived.Test.YtppfkbigeknedaaLeastLaws
namespace Go.Proofs.Ytppfkbigeknedaa.Q
open Go.RowKit Go.Proofs.YtppfkbigeknedaaW.PrintWords
set_option linter.unusedVariables false
set_option linter.unusedSimpArgs false
theorem rd26_in (xs : List S26) (i : Int) (h0 : 0 ≤ i) (h1 : i < (xs.length : Int)) : rd_T26 xs i ∈ xs := by
  have hi : i.toNat < xs.length := by omega
  have e : rd_T26 xs i = xs[i.toNat] := by unfold rd_T26; rw [List.getD_eq_getElem?_getD, List.getElem?_eq_getElem hi]; rfl
  rw [e]; exact List.getElem_mem hi
/-- The second loop: none is less than the b-th, none ahead of it is the same. -/
theorem all1 (l : List S26) (h : ∀ t ∈ l, fair t) (hl : l.length ≤ 30) (b : Int) (hb0 : 0 ≤ b) (hb1 : b < (l.length : Int))
    (h1 : ∀ j, 0 ≤ j → j < (l.length : Int) → Op.bytesLess (skey (rd_T26 l j)).toList (skey (rd_T26 l b)).toList = false) (h2 : ∀ j, 0 ≤ j → j < b → (skey (rd_T26 l j)).toList ≠ (skey (rd_T26 l b)).toList) :
    ∀ (m : Nat) (i : Int), 0 ≤ i → i + m = l.length → Ev (fun k => dunnagelaw17_KeyLeast.l1 k l true b i) true
  | 0, i, h0, hm => by
    refine Ev.step (f := fun _ => some true) (fun k => ?_) (Ev.now _)
    simp only [dunnagelaw17_KeyLeast.l1]
    rw [if_neg (by omega)]
  | m + 1, i, h0, hm => by
    have hw : wrap64 (i + 1) = i + 1 := by unfold wrap64; omega
    have hlt : i < (l.length : Int) := by omega
    have hf := rd26 l h i h0 hlt
    have hg := rd26 l h b hb0 hb1
    have hk := key_eq _ (rd_T26 l i).f1 (rd_T26 l i).f2 hf.1 hf.2
    have hkb := key_eq _ (rd_T26 l b).f1 (rd_T26 l b).f2 hg.1 hg.2
    have ih := all1 l h hl b hb0 hb1 h1 h2 m (i + 1) (by omega) (by omega)
    refine Ev.step (f := fun k => (key_Of.f k (rd_T26 l i).f0 (rd_T26 l i).f1 (rd_T26 l i).f2).bind fun t => (key_Of.f k (rd_T26 l b).f0 (rd_T26 l b).f1 (rd_T26 l b).f2).bind fun u => if Op.bytesLess t.toList u.toList = true then some false else if i < b then (key_Of.f k (rd_T26 l i).f0 (rd_T26 l i).f1 (rd_T26 l i).f2).bind fun v => (key_Of.f k (rd_T26 l b).f0 (rd_T26 l b).f1 (rd_T26 l b).f2).bind fun x => if v.toList = x.toList then some false else dunnagelaw17_KeyLeast.l1 k l true b (i + 1) else dunnagelaw17_KeyLeast.l1 k l true b (i + 1)) (fun k => ?_) (Ev.bind hk (Ev.bind hkb ?_))
    · simp only [dunnagelaw17_KeyLeast.l1]
      rw [if_pos hlt, if_pos h0, hw]
      simp only [hb0, hb1, if_true]
    · have hn : ¬ Op.bytesLess (keyOf (rd_T26 l i).f0 (rd_T26 l i).f1 (rd_T26 l i).f2).toList (keyOf (rd_T26 l b).f0 (rd_T26 l b).f1 (rd_T26 l b).f2).toList = true := by
        have := h1 i h0 hlt
        unfold skey at this
        rw [this]; simp
      refine Ev.congr (fun k => if_neg hn) ?_
      by_cases hib : i < b
      · exact Ev.congr (fun k => if_pos hib) (Ev.bind hk (Ev.bind hkb (Ev.congr (fun k => if_neg (h2 i h0 hib)) ih)))
      · exact Ev.congr (fun k => if_neg hib) ih
theorem first0 (l : List S26) (hok : ∀ t ∈ l, ok26 t) (hl : l.length ≤ 30) (hne : l.length ≠ 0) : ∀ (m : Nat) (i : Int), 0 ≤ i → i + m = l.length → (∀ j, 0 ≤ j → j < i → (rd_T26 l j).f0.length ≤ 40) → Ev (fun k => dunnagelaw17_KeyLeast.l0 k l true i) true
  | 0, i, h0, hm, hs => by
    have hfair : ∀ t ∈ l, fair t := by
      intro t ht
      obtain ⟨q, hq, rfl⟩ := List.mem_iff_getElem.1 ht
      have e : rd_T26 l (q : Int) = l[q] := by unfold rd_T26; rw [List.getD_eq_getElem?_getD, show ((q : Int)).toNat = q by omega, List.getElem?_eq_getElem hq]; rfl
      have := hs (q : Int) (by omega) (by omega)
      rw [e] at this
      exact ⟨(hok _ ht).1.2, by omega⟩
    rcases least_best l with ⟨h, _⟩ | ⟨hb0, hb1, h1, h2⟩
    · omega
    · refine Ev.step (f := fun k => (key_Least.f k l).bind fun b => if b < 0 then dunnagelaw17_KeyLeast.j2 k l true b true else dunnagelaw17_KeyLeast.j2 k l true b (decide (b ≥ (l.length : Int)))) (fun k => ?_) (Ev.bind (least_eq l hfair (by omega)) (Ev.congr (fun k => if_neg (by omega)) ?_))
      · simp only [dunnagelaw17_KeyLeast.l0]
        rw [if_neg (by omega)]
      · refine Ev.step (f := fun k => dunnagelaw17_KeyLeast.l1 k l true (least l) 0) (fun k => ?_) (all1 l hfair hl (least l) hb0 hb1 h1 h2 l.length 0 (by omega) (by omega))
        simp only [dunnagelaw17_KeyLeast.j2]
        rw [if_neg (by simp; omega)]
  | m + 1, i, h0, hm, hs => by
    have hw : wrap64 (i + 1) = i + 1 := by unfold wrap64; omega
    have hlt : i < (l.length : Int) := by omega
    by_cases hbig : ((rd_T26 l i).f0.length : Int) > 40
    · refine Ev.step (f := fun _ => some true) (fun k => ?_) (Ev.now _)
      simp only [dunnagelaw17_KeyLeast.l0]
      rw [if_pos hlt, if_pos h0, if_pos hbig]
    · have ih := first0 l hok hl hne m (i + 1) (by omega) (by omega) (fun j hj hj' => by
        by_cases e : j = i
        · subst e; omega
        · exact hs j hj (by omega))
      refine Ev.step (f := fun k => dunnagelaw17_KeyLeast.l0 k l true (i + 1)) (fun k => ?_) ih
      simp only [dunnagelaw17_KeyLeast.l0]
      rw [if_pos hlt, if_pos h0, if_neg hbig, hw]
theorem pureKeyLeast : dunnagelaw17_KeyLeast.Pure := by
  intro l hl
  refine Ev.rounds (Ev.bind up17 ?_)
  by_cases hb : (l.length : Int) > 30
  · refine Ev.congr (fun k => if_pos hb) (Ev.step (f := fun _ => some true) (fun k => ?_) (Ev.now _))
    simp only [dunnagelaw17_KeyLeast.j0]
    simp
  · refine Ev.congr (fun k => if_neg hb) ?_
    by_cases he : l.length = 0
    · refine Ev.step (f := fun _ => some true) (fun k => ?_) (Ev.now _)
      simp only [dunnagelaw17_KeyLeast.j0]
      rw [if_pos (by simp [he])]
    · refine Ev.step (f := fun k => dunnagelaw17_KeyLeast.l0 k l true 0) (fun k => ?_) (first0 l hl.2 (by omega) he l.length 0 (by omega) (by omega) (fun j hj hj' => by omega))
      simp only [dunnagelaw17_KeyLeast.j0]
      rw [if_neg (by simpa using he)]
end Go.Proofs.Ytppfkbigeknedaa.Q
