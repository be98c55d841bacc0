/- PriorVictims, in plain lists. -/
import Derived.Test.YtppfkbigeknedaaStatPriorVictims
import Derived.Test.YtppfkbigeknedaaPriorLaws
namespace Go.Proofs.Ytppfkbigeknedaa.Q
open Go.RowKit Go.Proofs.YtppfkbigeknedaaW.PrintWords
set_option linter.unusedVariables false
/-- Who may go, in the order of the sort. -/
def vics (l : List S70) (node prio : Int) : List Int := (stableP (l.filter fun q => !vicP node prio q).toArray).toList.map fun q => q.f0
theorem vics_perm (l : List S70) (node prio : Int) : (vics l node prio).Perm ((l.filter fun q => !vicP node prio q).map fun q => q.f0) := by
  unfold vics
  have h := (pm_stable (l.filter fun q => !vicP node prio q).toArray).2
  exact h.map _
theorem vics_mem {l : List S70} {node prio v : Int} (h : v ∈ vics l node prio) : ∃ q ∈ l, q.f0 = v ∧ q.f4 = node ∧ q.f2 < prio := by
  have h2 := (vics_perm l node prio).mem_iff.1 h
  obtain ⟨q, hq, rfl⟩ := List.mem_map.1 h2
  obtain ⟨hq1, hq2⟩ := List.mem_filter.1 hq
  refine ⟨q, hq1, rfl, ?_⟩
  simp [vicP] at hq2
  exact hq2
/-- Ids rise. -/
def Rises (l : List S70) : Prop := l.Pairwise fun a b => a.f0 < b.f0
theorem vics_nodup {l : List S70} {node prio : Int} (h : Rises l) : (vics l node prio).Nodup := by
  rw [(vics_perm l node prio).nodup_iff]
  have h1 : (l.filter fun q => !vicP node prio q).Pairwise fun a b => a.f0 < b.f0 := h.filter _
  rw [List.Nodup, List.pairwise_map]
  exact h1.imp (fun hab => by omega)
theorem vics_len (l : List S70) (node prio : Int) : (vics l node prio).length ≤ l.length := by
  rw [(vics_perm l node prio).length_eq, List.length_map]; exact List.length_filter_le _ _
theorem rises_fnd {l : List S70} (h : Rises l) {q : S70} (hq : q ∈ l) : ∃ k : Nat, idxP (fun x => x.f0 == q.f0) l 0 = k ∧ ∃ hk : k < l.length, l[k] = q ∧ fnd l q.f0 = some q := by
  unfold fnd
  rcases idx_fnd (fun x => x.f0 == q.f0) l 0 with ⟨h1, h2⟩ | ⟨k, hk, h1, h2, h3⟩
  · have := List.find?_eq_none.1 h2 q hq
    simp at this
  · refine ⟨k, by omega, hk, ?_⟩
    have e : l[k] = q := by
      obtain ⟨i, hi, hqi⟩ := List.mem_iff_getElem.1 hq
      have h4 : l[k].f0 = q.f0 := by simpa using h3
      rcases Nat.lt_trichotomy i k with hc | hc | hc
      · have := (List.pairwise_iff_getElem.1 h) i k hi hk hc; rw [hqi] at this; omega
      · subst hc; exact hqi
      · have := (List.pairwise_iff_getElem.1 h) k i hk hi hc; rw [hqi] at this; omega
    exact ⟨e, by rw [h2, e]⟩
theorem vf_none (l : List S70) (a b p node : Int) (h : fnd l p = none) : prior_Victims.f l a b p node = some [] := by
  unfold prior_Victims.f vicF
  rw [statePod_eq, h]; rfl
theorem vf_zero (l : List S70) (a b p : Int) : prior_Victims.f l a b p 0 = some [] := by
  unfold prior_Victims.f vicF
  rw [statePod_eq, Option.bind_some]
  cases fnd l p with
  | none => rfl
  | some x => rfl
theorem vf_some (l : List S70) (a b p node : Int) (x : S70) (h : fnd l p = some x) (hn : node ≠ 0) (hl : l.length ≤ 1000000) : prior_Victims.f l a b p node = some (vics l node x.f2) := by
  unfold prior_Victims.f vicF
  rw [statePod_eq, h, Option.bind_some]
  show (if true = true then (if node = 0 then some [] else if l.length < 1000000000000 then some (vics l node x.f2) else none) else some []) = _
  rw [if_pos rfl, if_neg hn, if_pos (by omega)]
/-- What Victims tells, however it is asked. -/
theorem vf_any (l : List S70) (a b p node : Int) (hl : l.length ≤ 1000000) : ∃ vs, prior_Victims.f l a b p node = some vs ∧ (vs = [] ∨ ∃ x, fnd l p = some x ∧ vs = vics l node x.f2) := by
  cases h : fnd l p with
  | none => exact ⟨[], vf_none l a b p node h, Or.inl rfl⟩
  | some x =>
    by_cases hn : node = 0
    · subst hn; exact ⟨[], vf_zero l a b p, Or.inl rfl⟩
    · exact ⟨_, vf_some l a b p node x h hn hl, Or.inr ⟨x, rfl, rfl⟩⟩
theorem rdI_nat (l : List Int) (k : Nat) (h : k < l.length) : rd l (k : Int) = l[k] := by
  unfold rd; rw [List.getD_eq_getElem?_getD, Int.toNat_natCast, List.getElem?_eq_getElem h]; rfl
section
variable (l : List S70) (a b p node : Int) (vs : List Int) (hl : l.length ≤ 40) (hr : Rises l) (hn : vs.Nodup) (hlen : vs.length ≤ 40) (hv : ∀ v ∈ vs, ∃ q ∈ l, q.f0 = v ∧ q.f4 = node ∧ mayB l p v = true)
include hl hr hn hlen hv
omit hl hr hv in
theorem pv_l2 (i : Nat) (hi : i < vs.length) (H : Ev (fun k => dunnagelaw10_PriorVictims.l1 k p node true vs ((i + 1 : Nat) : Int) l a b) true) : ∀ (m j : Nat), j + m = i → ∀ t : Int, Ev (fun k => dunnagelaw10_PriorVictims.l2 k p node true vs (i : Int) (j : Int) l a b) true
  | 0, j, h, t => by
    have hw : wrap64 ((i : Int) + 1) = ((i + 1 : Nat) : Int) := by unfold wrap64; omega
    refine Ev.step (f := fun k => dunnagelaw10_PriorVictims.l1 k p node true vs ((i + 1 : Nat) : Int) l a b) (fun k => ?_) H
    simp only [dunnagelaw10_PriorVictims.l2]
    rw [if_neg (by omega), hw]
  | m + 1, j, h, t => by
    have hw : wrap64 ((j : Int) + 1) = ((j + 1 : Nat) : Int) := by unfold wrap64; omega
    refine Ev.step (f := fun k => dunnagelaw10_PriorVictims.l2 k p node true vs (i : Int) ((j + 1 : Nat) : Int) l a b) (fun k => ?_) (pv_l2 i hi H m (j + 1) (by omega) t)
    simp only [dunnagelaw10_PriorVictims.l2]
    have hne : vs[j] ≠ vs[i] := by
      intro e
      have := (List.pairwise_iff_getElem.1 hn) j i (by omega) hi (by omega)
      exact this e
    rw [if_pos (by omega), if_pos (by omega), if_pos (by omega), if_pos (by omega), if_pos (by omega), rdI_nat vs j (by omega), rdI_nat vs i hi, if_neg hne, hw]
theorem pv_l1 : ∀ (m i : Nat), i + m = vs.length → Ev (fun k => dunnagelaw10_PriorVictims.l1 k p node true vs (i : Int) l a b) true
  | 0, i, h => by
    refine Ev.step (f := fun _ => some true) (fun k => ?_) (Ev.now _)
    simp only [dunnagelaw10_PriorVictims.l1]
    rw [if_neg (by omega)]
  | m + 1, i, h => by
    have hi : i < vs.length := by omega
    obtain ⟨q, hq, hqv, hqn, hm⟩ := hv vs[i] (List.getElem_mem hi)
    obtain ⟨k0, hk1, hk2, hk3, hk4⟩ := rises_fnd hr hq
    have hpl := place_ev q.f0 a b l (by omega)
    rw [hk1, hqv] at hpl
    refine Ev.step (f := fun k => (dunnageref05_Place.f k l a b vs[i]).bind fun t109 => (if t109 < 0 then (dunnagelaw10_PriorVictims.j2 k p node true vs (i : Int) t109 true l a b) else ((prior_May.f l a b p vs[i]).bind fun t111 => (dunnagelaw10_PriorVictims.j2 k p node true vs (i : Int) t109 (!t111) l a b)))) (fun k => ?_) (Ev.bind hpl ?_)
    · simp only [dunnagelaw10_PriorVictims.l1]
      rw [if_pos (by omega), if_pos (by omega), rdI_nat vs i hi]
    · have H2 : Ev (fun k => dunnagelaw10_PriorVictims.j2 k p node true vs (i : Int) (k0 : Int) false l a b) true := by
        refine Ev.step (f := fun k => dunnagelaw10_PriorVictims.l2 k p node true vs (i : Int) ((0 : Nat) : Int) l a b) (fun k => ?_) (pv_l2 l a b p node vs hn hlen i hi (pv_l1 m (i + 1) (by omega)) i 0 (by omega) 0)
        simp only [dunnagelaw10_PriorVictims.j2]
        rw [if_neg (by simp), if_pos (by omega), if_pos (by omega), rd70_nat l k0 hk2, hk3, if_pos hqn]
        rfl
      refine Ev.congr (fun k => ?_) H2
      rw [if_neg (by omega), may_eq, Option.bind_some, hm]
      rfl
end
theorem pv_l0 (l : List S70) (a b p node : Int) (hl : l.length ≤ 40) : ∀ (m i : Nat), 1 ≤ i → (i + m = l.length ∨ m = 0 ∧ l.length ≤ i) → (∀ j (h : j < l.length), 1 ≤ j → j < i → l[j - 1].f0 < l[j].f0) → Ev (fun k => dunnagelaw10_PriorVictims.l0 k p node true (i : Int) l a b) true
  | 0, i, h1, h2, hs => by
    have hr : Rises l := by
      have step : ∀ (d u : Nat) (h : u + d + 1 < l.length), l[u].f0 < l[u + d + 1].f0 := by
        intro d
        induction d with
        | zero => intro u h; have := hs (u + 1) h (by omega) (by omega); simpa using this
        | succ d ih => intro u h
                       have h3 := ih u (by omega)
                       have h4 := hs (u + d + 2) (by omega) (by omega) (by omega)
                       simp only [show u + d + 2 - 1 = u + d + 1 by omega] at h4
                       exact Int.lt_trans h3 h4
      refine List.pairwise_iff_getElem.2 fun u v hu hv huv => ?_
      obtain ⟨d, rfl⟩ : ∃ d, v = u + d + 1 := ⟨v - u - 1, by omega⟩
      exact step d u hv
    obtain ⟨vs, hvs, hc⟩ := vf_any l a b p node (by omega)
    refine Ev.step (f := fun k => dunnagelaw10_PriorVictims.l1 k p node true vs ((0 : Nat) : Int) l a b) (fun k => ?_) ?_
    · simp only [dunnagelaw10_PriorVictims.l0]
      rw [if_neg (by omega), hvs, Option.bind_some]
      rfl
    · rcases hc with rfl | ⟨x, hx, rfl⟩
      · exact pv_l1 l a b p node [] hl hr List.nodup_nil (by simp) (by simp) 0 0 rfl
      · refine pv_l1 l a b p node _ hl hr (vics_nodup hr) (by have := vics_len l node x.f2; omega) (fun v hv => ?_) (vics l node x.f2).length 0 (by omega)
        obtain ⟨q, hq, h3, h4, h5⟩ := vics_mem hv
        refine ⟨q, hq, h3, h4, ?_⟩
        obtain ⟨_, _, _, _, h6⟩ := rises_fnd hr hq
        unfold mayB
        rw [hx, ← h3, h6]
        simpa using h5
  | m + 1, i, h1, h2, hs => by
    have hlt : i < l.length := by omega
    have hw : wrap64 ((i : Int) + 1) = ((i + 1 : Nat) : Int) := by unfold wrap64; omega
    have hw2 : wrap64 ((i : Int) - 1) = ((i - 1 : Nat) : Int) := by unfold wrap64; omega
    by_cases hx : l[i].f0 ≤ l[i - 1].f0
    · refine Ev.step (f := fun _ => some true) (fun k => ?_) (Ev.now _)
      simp only [dunnagelaw10_PriorVictims.l0]
      rw [if_pos (by omega), if_pos (by omega), hw2, if_pos (by omega), if_pos (by omega), rd70_nat l i hlt, rd70_nat l (i - 1) (by omega), if_pos hx]
    · refine Ev.step (f := fun k => dunnagelaw10_PriorVictims.l0 k p node true ((i + 1 : Nat) : Int) l a b) (fun k => ?_) (pv_l0 l a b p node hl m (i + 1) (by omega) (by omega) (fun j h h3 h4 => ?_))
      · simp only [dunnagelaw10_PriorVictims.l0]
        rw [if_pos (by omega), if_pos (by omega), hw2, if_pos (by omega), if_pos (by omega), rd70_nat l i hlt, rd70_nat l (i - 1) (by omega), if_neg hx, hw]
      · by_cases hj : j = i
        · subst hj; omega
        · exact hs j h h3 (by omega)
theorem purePriorVictims : dunnagelaw10_PriorVictims.Pure := by
  intro x p node _ _ _
  unfold dunnagelaw10_PriorVictims.f
  rw [law10_up_eq]
  by_cases h : (x.f0.length : Int) > 40
  · exact ⟨0, by rw [Option.bind_some, if_pos h]⟩
  · have := pv_l0 x.f0 x.f1 x.f2 p node (by omega) (x.f0.length - 1) 1 (by omega) (by omega) (fun j h h1 h2 => by omega)
    obtain ⟨K, hK⟩ := this
    exact ⟨K, by rw [Option.bind_some, if_neg h]; exact hK K (Nat.le_refl _)⟩
end Go.Proofs.Ytppfkbigeknedaa.Q
