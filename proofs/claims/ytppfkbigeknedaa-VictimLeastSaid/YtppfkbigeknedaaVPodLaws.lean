/- Pods, in plain lists: who may go for whom, victims. -/
import Derived.Test.YtppfkbigeknedaaVQpriorMay
import Derived.Test.YtppfkbigeknedaaVQpriorVictims
namespace Go.Proofs.Ytppfkbigeknedaa.Q
open Go.RowKit Go.Proofs.YtppfkbigeknedaaW.PrintWords
set_option linter.unusedVariables false
set_option linter.unusedSimpArgs false
def fnd (l : List S70) (id : Int) : Option S70 := l.find? fun x => x.f0 == id
theorem rd70_nat (l : List S70) (k : Nat) (h : k < l.length) : rd_T70 l (k : Int) = l[k] := by
  unfold rd_T70; rw [List.getD_eq_getElem?_getD, Int.toNat_natCast, List.getElem?_eq_getElem h]; rfl
theorem idx_fnd (p : S70 → Bool) : ∀ (l : List S70) (i : Int), (idxP p l i = -1 ∧ l.find? p = none) ∨ ∃ (k : Nat) (h : k < l.length), idxP p l i = i + k ∧ l.find? p = some l[k] ∧ p l[k] = true
  | [], i => Or.inl ⟨rfl, rfl⟩
  | x :: l, i => by
    cases hx : p x with
    | true => exact Or.inr ⟨0, by simp, by simp [idxP, hx], by simp [List.find?, hx], by simpa using hx⟩
    | false =>
      rcases idx_fnd p l (i + 1) with ⟨h1, h2⟩ | ⟨k, h, h1, h2, h3⟩
      · exact Or.inl ⟨by simp [idxP, hx, h1], by simp [List.find?, hx, h2]⟩
      · exact Or.inr ⟨k + 1, by simpa using h, by simp only [idxP, hx]; rw [if_neg (by simp), h1]; omega, by simp [List.find?, hx, h2], by simpa using h3⟩
def podT : Option S70 → Int × Int × Int × Int × Int × Int × Int × Int × Bool
  | none => (0, 0, 0, 0, 0, 0, 0, 0, false)
  | some x => (x.f0, x.f1, x.f2, x.f3.f0, x.f3.f1, x.f3.f2, x.f3.f3, x.f4, true)
theorem statePod_eq (l : List S70) (a b id : Int) : state_Pod.f l a b id = some (podT (fnd l id)) := by
  unfold state_Pod.f state_place.f fnd
  rw [Option.bind_some]
  rcases idx_fnd (fun x => x.f0 == id) l 0 with ⟨h1, h2⟩ | ⟨k, h, h1, h2, h3⟩
  · rw [h1, h2, if_pos (by omega)]; rfl
  · rw [h1, h2, if_neg (by omega), if_pos (by omega), if_pos (by omega), Int.zero_add, rd70_nat l k h]; rfl
def mayB (l : List S70) (p o : Int) : Bool := match fnd l p, fnd l o with
  | some x, some y => decide (y.f2 < x.f2)
  | _, _ => false
theorem may_eq (l : List S70) (a b p o : Int) : prior_May.f l a b p o = some (mayB l p o) := by
  unfold prior_May.f mayB
  rw [statePod_eq, statePod_eq, Option.bind_some, Option.bind_some]
  cases fnd l p with
  | none => rfl
  | some x => cases fnd l o with
    | none => rfl
    | some y => rfl
theorem stable_small (d : Array S70) (h : d.size ≤ 1) : stableP d = d := by
  unfold stableP
  rw [stA_last (by omega)]
  have e : Go.Sort.insertionSort (Go.Proofs.ltOf cmpPods) d 0 d.size = d := by
    unfold Go.Sort.insertionSort
    rw [Go.Sort.insOuter, if_neg (by omega)]
  rw [e, stC_last (by omega)]
def vics (l : List S70) (node prio : Int) : List Int := (stableP (l.filter fun q => !vicP node prio q).toArray).toList.map fun q => q.f0
theorem vics_perm (l : List S70) (node prio : Int) : (vics l node prio).Perm ((l.filter fun q => !vicP node prio q).map fun q => q.f0) := by
  unfold vics
  have h := (pm_stable (l.filter fun q => !vicP node prio q).toArray).2
  exact h.map _
theorem vics_mem {l : List S70} {node prio v : Int} (h : v ∈ vics l node prio) : ∃ q ∈ l, q.f0 = v ∧ q.f4 = node ∧ q.f2 < prio := by
  have h2 := (vics_perm l node prio).mem_iff.1 h
  obtain ⟨q, hq, rfl⟩ := List.mem_map.1 h2
  obtain ⟨hq1, hq2⟩ := List.mem_filter.1 hq
  refine ⟨q, hq1, rfl, ?_⟩
  simp [vicP] at hq2
  exact hq2
def Rises (l : List S70) : Prop := l.Pairwise fun a b => a.f0 < b.f0
theorem vics_len (l : List S70) (node prio : Int) : (vics l node prio).length ≤ l.length := by
  rw [(vics_perm l node prio).length_eq, List.length_map]; exact List.length_filter_le _ _
theorem rises_fnd {l : List S70} (h : Rises l) {q : S70} (hq : q ∈ l) : ∃ k : Nat, idxP (fun x => x.f0 == q.f0) l 0 = k ∧ ∃ hk : k < l.length, l[k] = q ∧ fnd l q.f0 = some q := by
  unfold fnd
  rcases idx_fnd (fun x => x.f0 == q.f0) l 0 with ⟨h1, h2⟩ | ⟨k, hk, h1, h2, h3⟩
  · have := List.find?_eq_none.1 h2 q hq
    simp at this
  · refine ⟨k, by omega, hk, ?_⟩
    have e : l[k] = q := by
      obtain ⟨i, hi, hqi⟩ := List.mem_iff_getElem.1 hq
      have h4 : l[k].f0 = q.f0 := by simpa using h3
      rcases Nat.lt_trichotomy i k with hc | hc | hc
      · have := (List.pairwise_iff_getElem.1 h) i k hi hk hc; rw [hqi] at this; omega
      · subst hc; exact hqi
      · have := (List.pairwise_iff_getElem.1 h) k i hk hi hc; rw [hqi] at this; omega
    exact ⟨e, by rw [h2, e]⟩
theorem vf_none (l : List S70) (a b p node : Int) (h : fnd l p = none) : prior_Victims.f l a b p node = some [] := by
  unfold prior_Victims.f vicF
  rw [statePod_eq, h]; rfl
theorem vf_zero (l : List S70) (a b p : Int) : prior_Victims.f l a b p 0 = some [] := by
  unfold prior_Victims.f vicF
  rw [statePod_eq, Option.bind_some]
  cases fnd l p with
  | none => rfl
  | some x => rfl
theorem vf_some (l : List S70) (a b p node : Int) (x : S70) (h : fnd l p = some x) (hn : node ≠ 0) (hl : l.length ≤ 1000000) : prior_Victims.f l a b p node = some (vics l node x.f2) := by
  unfold prior_Victims.f vicF
  rw [statePod_eq, h, Option.bind_some]
  show (if true = true then (if node = 0 then some [] else if l.length < 1000000000000 then some (vics l node x.f2) else none) else some []) = _
  rw [if_pos rfl, if_neg hn, if_pos (by omega)]
theorem vf_any (l : List S70) (a b p node : Int) (hl : l.length ≤ 1000000) : ∃ vs, prior_Victims.f l a b p node = some vs ∧ (vs = [] ∨ ∃ x, fnd l p = some x ∧ vs = vics l node x.f2) := by
  cases h : fnd l p with
  | none => exact ⟨[], vf_none l a b p node h, Or.inl rfl⟩
  | some x =>
    by_cases hn : node = 0
    · subst hn; exact ⟨[], vf_zero l a b p, Or.inl rfl⟩
    · exact ⟨_, vf_some l a b p node x h hn hl, Or.inr ⟨x, rfl, rfl⟩⟩
end Go.Proofs.Ytppfkbigeknedaa.Q
