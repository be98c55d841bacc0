/- Pods, in plain lists: places, who may go for whom, victims. -/
import Derived.Test.YtppfkbigeknedaaQdunnagelaw10up
import Derived.Test.YtppfkbigeknedaaQdunnageref05Place
namespace Go.Proofs.Ytppfkbigeknedaa.Q
open Go.RowKit Go.Proofs.YtppfkbigeknedaaW.PrintWords
set_option linter.unusedVariables false
set_option linter.unusedSimpArgs false
def fnd (l : List S70) (id : Int) : Option S70 := l.find? fun x => x.f0 == id
theorem rd70_nat (l : List S70) (k : Nat) (h : k < l.length) : rd_T70 l (k : Int) = l[k] := by
  unfold rd_T70; rw [List.getD_eq_getElem?_getD, Int.toNat_natCast, List.getElem?_eq_getElem h]; rfl
theorem idx_fnd (p : S70 → Bool) : ∀ (l : List S70) (i : Int), (idxP p l i = -1 ∧ l.find? p = none) ∨ ∃ (k : Nat) (h : k < l.length), idxP p l i = i + k ∧ l.find? p = some l[k] ∧ p l[k] = true
  | [], i => Or.inl ⟨rfl, rfl⟩
  | x :: l, i => by
    cases hx : p x with
    | true => exact Or.inr ⟨0, by simp, by simp [idxP, hx], by simp [List.find?, hx], by simpa using hx⟩
    | false =>
      rcases idx_fnd p l (i + 1) with ⟨h1, h2⟩ | ⟨k, h, h1, h2, h3⟩
      · exact Or.inl ⟨by simp [idxP, hx, h1], by simp [List.find?, hx, h2]⟩
      · exact Or.inr ⟨k + 1, by simpa using h, by simp only [idxP, hx]; rw [if_neg (by simp), h1]; omega, by simp [List.find?, hx, h2], by simpa using h3⟩
def podT : Option S70 → Int × Int × Int × Int × Int × Int × Int × Int × Bool
  | none => (0, 0, 0, 0, 0, 0, 0, 0, false)
  | some x => (x.f0, x.f1, x.f2, x.f3.f0, x.f3.f1, x.f3.f2, x.f3.f3, x.f4, true)
theorem statePod_eq (l : List S70) (a b id : Int) : state_Pod.f l a b id = some (podT (fnd l id)) := by
  unfold state_Pod.f state_place.f fnd
  rw [Option.bind_some]
  rcases idx_fnd (fun x => x.f0 == id) l 0 with ⟨h1, h2⟩ | ⟨k, h, h1, h2, h3⟩
  · rw [h1, h2, if_pos (by omega)]; rfl
  · rw [h1, h2, if_neg (by omega), if_pos (by omega), if_pos (by omega), Int.zero_add, rd70_nat l k h]; rfl
def mayB (l : List S70) (p o : Int) : Bool := match fnd l p, fnd l o with
  | some x, some y => decide (y.f2 < x.f2)
  | _, _ => false
theorem may_eq (l : List S70) (a b p o : Int) : prior_May.f l a b p o = some (mayB l p o) := by
  unfold prior_May.f mayB
  rw [statePod_eq, statePod_eq, Option.bind_some, Option.bind_some]
  cases fnd l p with
  | none => rfl
  | some x => cases fnd l o with
    | none => rfl
    | some y => rfl
theorem stable_small (d : Array S70) (h : d.size ≤ 1) : stableP d = d := by
  unfold stableP
  rw [stA_last (by omega)]
  have e : Go.Sort.insertionSort (Go.Proofs.ltOf cmpPods) d 0 d.size = d := by
    unfold Go.Sort.insertionSort
    rw [Go.Sort.insOuter, if_neg (by omega)]
  rw [e, stC_last (by omega)]
theorem law10_up_eq : dunnagelaw10_up.f = some true := by
  have hv : prior_Victims.f [(⟨1, 0, 1, (⟨0, 0, 0, 0⟩ : S33), 3⟩ : S70), (⟨2, 0, 2, (⟨0, 0, 0, 0⟩ : S33), 0⟩ : S70)] 0 0 2 3 = some [1] := by
    unfold prior_Victims.f vicF
    rw [statePod_eq, Option.bind_some]
    show (if true = true then (if (3 : Int) = 0 then some [] else if 2 < 1000000000000 then some ((stableP #[(⟨1, 0, 1, (⟨0, 0, 0, 0⟩ : S33), 3⟩ : S70)]).toList.map fun q => q.f0) else none) else some []) = some [1]
    rw [stable_small _ (by simp)]
    rfl
  unfold dunnagelaw10_up.f
  rw [Option.bind_some, hv, Option.bind_some, may_eq, Option.bind_some, may_eq]
  unfold prior_Check.f
  rw [may_eq]
  rfl
theorem may_self (l : List S70) (a : Int) : mayB l a a = false := by
  unfold mayB
  cases fnd l a with
  | none => rfl
  | some x => simp
theorem may_anti (l : List S70) (a b : Int) (h : mayB l a b = true) : mayB l b a = false := by
  unfold mayB at *
  cases ha : fnd l a <;> cases hb : fnd l b <;> simp_all
  omega
theorem may_trans (l : List S70) (a b c : Int) (h : mayB l a b = true) (h2 : mayB l b c = true) : mayB l a c = true := by
  unfold mayB at *
  cases ha : fnd l a <;> cases hb : fnd l b <;> cases hc : fnd l c <;> simp_all
  omega
theorem placel0 (id a b : Int) (l : List S70) (hl : l.length ≤ 1000000) : ∀ (m i : Nat), i + m = l.length → Ev (fun k => dunnageref05_Place.l0 k id (i : Int) l a b) (idxP (fun x => x.f0 == id) (l.drop i) i)
  | 0, i, h => by
    refine Ev.step (f := fun _ => some (-1)) (fun k => ?_) ?_
    · simp only [dunnageref05_Place.l0]
      rw [if_neg (by omega)]
    · rw [List.drop_of_length_le (by omega)]; exact Ev.now _
  | m + 1, i, h => by
    have hlt : i < l.length := by omega
    have hd : l.drop i = l[i] :: l.drop (i + 1) := List.drop_eq_getElem_cons hlt
    have hw : wrap64 ((i : Int) + 1) = ((i + 1 : Nat) : Int) := by unfold wrap64; omega
    by_cases hx : l[i].f0 = id
    · refine Ev.step (f := fun _ => some (i : Int)) (fun k => ?_) ?_
      · simp only [dunnageref05_Place.l0]
        rw [if_pos (by omega), if_pos (by omega), rd70_nat l i hlt, if_pos hx]
      · rw [hd]; simp only [idxP]; rw [if_pos (by simpa using hx)]; exact Ev.now _
    · refine Ev.step (f := fun k => dunnageref05_Place.l0 k id ((i + 1 : Nat) : Int) l a b) (fun k => ?_) ?_
      · simp only [dunnageref05_Place.l0]
        rw [if_pos (by omega), if_pos (by omega), rd70_nat l i hlt, if_neg hx, hw]
      · have := placel0 id a b l hl m (i + 1) (by omega)
        rw [hd]; simp only [idxP]; rw [if_neg (by simpa using hx)]; exact this
theorem place_ev (id a b : Int) (l : List S70) (hl : l.length ≤ 1000000) : Ev (fun k => dunnageref05_Place.f k l a b id) (idxP (fun x => x.f0 == id) l 0) := placel0 id a b l hl l.length 0 (by omega)
end Go.Proofs.Ytppfkbigeknedaa.Q
