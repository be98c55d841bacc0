/- KeyTells, in plain lists. -/
import Derived.Test.YtppfkbigeknedaaStatKeyTells
import Derived.Test.YtppfkbigeknedaaLeastLaws
namespace Go.Proofs.Ytppfkbigeknedaa.Q
open Go.RowKit Go.Proofs.YtppfkbigeknedaaW.PrintWords
set_option linter.unusedVariables false
set_option linter.unusedSimpArgs false
theorem rleast0 (l : List S26) (h : ∀ t ∈ l, fair t) (hl : l.length ≤ 1000000) : ∀ (m : Nat) (b i : Int), 0 ≤ i → i + m = l.length → (b < 0 ∨ 0 ≤ b ∧ b < i) → Ev (fun k => dunnageref16_Least.l0 k l b i) (go l m b i)
  | 0, b, i, h0, hm, hb => by
    refine Ev.step (f := fun _ => some b) (fun k => ?_) (Ev.now _)
    simp only [dunnageref16_Least.l0]
    rw [if_neg (by omega)]
  | m + 1, b, i, h0, hm, hb => by
    have hw : wrap64 (i + 1) = i + 1 := by unfold wrap64; omega
    have hlt : i < (l.length : Int) := by omega
    have hf := rd26 l h i h0 hlt
    have hk := rkey_eq _ (rd_T26 l i).f1 (rd_T26 l i).f2 hf.1 hf.2
    have key : ∀ c : Int, 0 ≤ c → c ≤ i → nxt l b i = (if Op.bytesLess (skey (rd_T26 l i)).toList (skey (rd_T26 l c)).toList = true then i else c) → Ev (fun k => dunnageref16_Least.j1 k l c i) (go l (m + 1) b i) := by
      intro c hc hci hn
      have hg := rd26 l h c hc (by omega)
      have hkc := rkey_eq _ (rd_T26 l c).f1 (rd_T26 l c).f2 hg.1 hg.2
      refine Ev.step (f := fun k => (dunnageref16_Key.f k (rd_T26 l i).f0 (rd_T26 l i).f1 (rd_T26 l i).f2).bind fun t => (dunnageref16_Key.f k (rd_T26 l c).f0 (rd_T26 l c).f1 (rd_T26 l c).f2).bind fun u => if Op.bytesLess t.toList u.toList = true then dunnageref16_Least.l0 k l i (i + 1) else dunnageref16_Least.l0 k l c (i + 1)) (fun k => ?_) (Ev.bind hk (Ev.bind hkc ?_))
      · simp only [dunnageref16_Least.j1]
        rw [if_pos h0, if_pos hlt, hw]
        simp only [hc, show c < (l.length : Int) by omega, if_true]
      · have e : go l (m + 1) b i = go l m (nxt l b i) (i + 1) := rfl
        rw [e, hn]
        by_cases hq : Op.bytesLess (skey (rd_T26 l i)).toList (skey (rd_T26 l c)).toList = true
        · rw [if_pos hq]
          exact Ev.congr (fun k => if_pos hq) (rleast0 l h hl m i (i + 1) (by omega) (by omega) (.inr ⟨h0, by omega⟩))
        · rw [if_neg hq]
          exact Ev.congr (fun k => if_neg hq) (rleast0 l h hl m c (i + 1) (by omega) (by omega) (.inr ⟨hc, by omega⟩))
    by_cases hneg : b < 0
    · refine Ev.step (f := fun k => dunnageref16_Least.j1 k l i i) (fun k => ?_) (key i h0 (Int.le_refl _) (by simp [nxt, hneg]))
      simp only [dunnageref16_Least.l0]
      rw [if_pos hlt, if_pos hneg]
    · refine Ev.step (f := fun k => dunnageref16_Least.j1 k l b i) (fun k => ?_) (key b (by omega) (by omega) (by simp [nxt, hneg]))
      simp only [dunnageref16_Least.l0]
      rw [if_pos hlt, if_neg hneg]
theorem rleast_eq (l : List S26) (h : ∀ t ∈ l, fair t) (hl : l.length ≤ 1000000) : Ev (fun k => dunnageref16_Least.f k l) (least l) := rleast0 l h hl l.length (-1) 0 (by omega) (by omega) (.inl (by omega))
theorem rd26_mem (xs : List S26) (i : Int) (h0 : 0 ≤ i) (h1 : i < (xs.length : Int)) : rd_T26 xs i ∈ xs := by
  have hi : i.toNat < xs.length := by omega
  have e : rd_T26 xs i = xs[i.toNat] := by unfold rd_T26; rw [List.getD_eq_getElem?_getD, List.getElem?_eq_getElem hi]; rfl
  rw [e]; exact List.getElem_mem hi
theorem tells0 (l : List S26) (hok : ∀ t ∈ l, ok26 t) (hl : l.length ≤ 30) : ∀ (m : Nat) (i : Int), 0 ≤ i → i + m = l.length → (∀ j, 0 ≤ j → j < i → (rd_T26 l j).f0.length ≤ 40) → Ev (fun k => dunnagelaw17_KeyTells.l0 k l true i) true
  | 0, i, h0, hm, hs => by
    have hfair : ∀ t ∈ l, fair t := by
      intro t ht
      obtain ⟨q, hq, rfl⟩ := List.mem_iff_getElem.1 ht
      have e : rd_T26 l (q : Int) = l[q] := by unfold rd_T26; rw [List.getD_eq_getElem?_getD, show ((q : Int)).toNat = q by omega, List.getElem?_eq_getElem hq]; rfl
      have := hs (q : Int) (by omega) (by omega)
      rw [e] at this
      exact ⟨(hok _ ht).1.2, by omega⟩
    refine Ev.step (f := fun k => (key_Least.f k l).bind fun a => (dunnageref16_Least.f k l).bind fun b => some (a == b)) (fun k => ?_) (Ev.bind (least_eq l hfair (by omega)) (Ev.bind (rleast_eq l hfair (by omega)) ?_))
    · simp only [dunnagelaw17_KeyTells.l0]
      rw [if_neg (by omega)]
      simp
    · refine Ev.congr (f := fun _ => some true) (fun k => ?_) (Ev.now _)
      simp
  | m + 1, i, h0, hm, hs => by
    have hw : wrap64 (i + 1) = i + 1 := by unfold wrap64; omega
    have hlt : i < (l.length : Int) := by omega
    have hmem := rd26_mem l i h0 hlt
    by_cases hbig : ((rd_T26 l i).f0.length : Int) > 40
    · refine Ev.step (f := fun _ => some true) (fun k => ?_) (Ev.now _)
      simp only [dunnagelaw17_KeyTells.l0]
      rw [if_pos hlt, if_pos h0, if_pos hbig]
    · have hp := (hok _ hmem).1.2
      have hk := key_eq _ (rd_T26 l i).f1 (rd_T26 l i).f2 hp (by omega)
      have hr := rkey_eq _ (rd_T26 l i).f1 (rd_T26 l i).f2 hp (by omega)
      have ih := tells0 l hok hl m (i + 1) (by omega) (by omega) (fun j hj hj' => by
        by_cases e : j = i
        · subst e; omega
        · exact hs j hj (by omega))
      refine Ev.step (f := fun k => (key_Of.f k (rd_T26 l i).f0 (rd_T26 l i).f1 (rd_T26 l i).f2).bind fun t => (dunnageref16_Key.f k (rd_T26 l i).f0 (rd_T26 l i).f1 (rd_T26 l i).f2).bind fun u => if t.toList = u.toList then dunnagelaw17_KeyTells.l0 k l true (i + 1) else some false) (fun k => ?_) (Ev.bind hk (Ev.bind hr (Ev.congr (fun k => if_pos rfl) ih)))
      simp only [dunnagelaw17_KeyTells.l0]
      rw [if_pos hlt, if_pos h0, if_neg hbig, hw]
theorem pureKeyTells : dunnagelaw17_KeyTells.Pure := by
  intro l hl
  refine Ev.rounds (Ev.bind up17 ?_)
  by_cases hb : (l.length : Int) > 30
  · exact Ev.congr (fun k => if_pos hb) (Ev.now _)
  · exact Ev.congr (fun k => if_neg hb) (tells0 l hl.2 (by omega) l.length 0 (by omega) (by omega) (fun j hj hj' => by omega))
end Go.Proofs.Ytppfkbigeknedaa.Q
