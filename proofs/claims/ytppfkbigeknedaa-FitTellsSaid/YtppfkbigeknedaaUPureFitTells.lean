/- FitTells, in plain lists. -/
import Derived.Test.YtppfkbigeknedaaUStatFitTells
import Derived.Test.YtppfkbigeknedaaURefRoom
namespace Go.Proofs.Ytppfkbigeknedaa.Q
open Go.RowKit Go.Proofs.YtppfkbigeknedaaW.PrintWords
set_option linter.unusedVariables false
set_option linter.unusedSimpArgs false
theorem chs_left1 {nodes : List S150} {pods : List S70} {req : S33} {l : List S150} {c : S164} (h : c ∈ chs nodes pods req l) : leftO nodes pods req c.f0 = some c.f1 := by
  unfold chs at h
  obtain ⟨n, _, hn⟩ := List.mem_filterMap.1 h
  cases hl : leftO nodes pods req n.f0 with
  | none => rw [hl] at hn; cases hn
  | some v =>
    rw [hl] at hn
    obtain rfl : (⟨n.f0, v⟩ : S164) = c := by simpa using hn
    exact hl
theorem rd_map1 (l : List S164) (i : Nat) (h : i < l.length) : rd (l.map fun c => c.f0) (i : Int) = l[i].f0 := by
  unfold rd
  rw [List.getD_eq_getElem?_getD, Int.toNat_natCast, List.getElem?_map, List.getElem?_eq_getElem h]
  rfl
theorem ints0 (l : List Int) (hl : l.length ≤ 1000000000) : ∀ (m i : Nat), i + m = l.length → Ev (fun k => dunnageref07_Ints.l0 k l l (i : Int)) true
  | 0, i, hi => by
    refine Ev.step (f := fun _ => some true) (fun k => ?_) (Ev.now _)
    simp only [dunnageref07_Ints.l0]
    rw [if_neg (by omega)]
  | m + 1, i, hi => by
    have hw : wrap64 ((i : Int) + 1) = ((i + 1 : Nat) : Int) := by unfold wrap64; omega
    refine Ev.step (f := fun k => dunnageref07_Ints.l0 k l l ((i + 1 : Nat) : Int)) (fun k => ?_) (ints0 l hl m (i + 1) (by omega))
    simp only [dunnageref07_Ints.l0]
    rw [if_pos (by omega), if_pos (by omega), if_pos (by omega), if_pos trivial, hw]
theorem ints_self (l : List Int) (hl : l.length ≤ 1000000000) : Ev (fun k => dunnageref07_Ints.f k l l) true := by
  unfold dunnageref07_Ints.f
  simp only [if_true]
  exact ints0 l hl l.length 0 (by omega)
def leftB : Option S33 → Int × Int × Int × Int × Bool
  | some v => okV v
  | none => errV
section
variable (nodes : List S150) (l1 : List S260) (l2 : List S70) (pods : List S70) (a b : Int) (req : S33) (hq : uv req) (hn : ∀ n ∈ nodes, uv n.f2 ∧ uv n.f3) (h : ∀ q ∈ pods, uv q.f3) (hl : nodes.length ≤ 1000000000) (hl2 : pods.length ≤ 1000000000)
include hq hn h hl hl2
theorem refLeft_ev (id : Int) : Ev (fun k => dunnageref14_Left.f k nodes l1 l2 pods a b id req.f0 req.f1 req.f2 req.f3) (leftB (leftO nodes pods req id)) := by
  obtain ⟨r, hr, hb⟩ := refRest_ev nodes l1 l2 pods a b id hn h hl hl2
  unfold dunnageref14_Left.f
  refine Ev.bind hr ?_
  unfold leftO
  cases ho : restO nodes pods id with
  | none =>
    rw [ho] at hb
    obtain ⟨c, hc, rfl⟩ := hb
    simp only [hc, if_false]
    exact Ev.now _
  | some v =>
    rw [ho] at hb
    obtain rfl : r = (v.f0, v.f1, v.f2, v.f3, 0) := hb
    simp only [if_true, subB4 v req (rest_uv hn h ho) hq, Option.bind_some]
    by_cases hv : vle req v
    · simp only [hv, if_true]; exact Ev.now _
    · simp only [hv, if_false]; exact Ev.now _
theorem refFits0 : ∀ (m i : Nat) (acc : List Int), i + m = nodes.length → acc.length ≤ i → Ev (fun k => dunnageref14_Fits.l0 k acc (i : Int) nodes l1 l2 pods a b req.f0 req.f1 req.f2 req.f3) (acc ++ (chs nodes pods req (nodes.drop i)).map fun c => c.f0) := by
  intro m
  induction m with
  | zero =>
    intro i acc hi ha
    refine Ev.step (f := fun _ => some acc) (fun k => ?_) ?_
    · simp only [dunnageref14_Fits.l0]
      rw [if_neg (by omega)]
    · rw [List.drop_of_length_le (by omega)]
      show Ev _ (acc ++ [])
      rw [List.append_nil]; exact Ev.now _
  | succ m ih =>
    intro i acc hi ha
    have hlt : i < nodes.length := by omega
    have hw : wrap64 ((i : Int) + 1) = ((i + 1 : Nat) : Int) := by unfold wrap64; omega
    have hd : nodes.drop i = nodes[i] :: nodes.drop (i + 1) := List.drop_eq_getElem_cons hlt
    have hle := refLeft_ev nodes l1 l2 pods a b req hq hn h hl hl2 nodes[i].f0
    rw [hd]
    refine Ev.step (f := fun k => (dunnageref14_Left.f k nodes l1 l2 pods a b nodes[i].f0 req.f0 req.f1 req.f2 req.f3).bind fun bt105 => (if bt105.2.2.2.2 = true then (if acc.length < 17592186044416 then (dunnageref14_Fits.l0 k (acc ++ [nodes[i].f0]) ((i + 1 : Nat) : Int) nodes l1 l2 pods a b req.f0 req.f1 req.f2 req.f3) else (none)) else (dunnageref14_Fits.l0 k acc ((i + 1 : Nat) : Int) nodes l1 l2 pods a b req.f0 req.f1 req.f2 req.f3))) (fun k => ?_) (Ev.bind hle ?_)
    · simp only [dunnageref14_Fits.l0]
      rw [if_pos (by omega), if_pos (by omega), rd150_nat nodes i hlt, hw]
    · cases ho : leftO nodes pods req nodes[i].f0 with
      | none =>
        rw [chs_none ho]
        simp only [leftB, errV, Bool.false_eq_true, if_false]
        exact ih (i + 1) acc (by omega) (by omega)
      | some v =>
        rw [chs_some ho, List.map_cons]
        simp only [leftB, okV, if_true, show acc.length < 17592186044416 from by omega]
        have := ih (i + 1) (acc ++ [nodes[i].f0]) (by omega) (by rw [List.length_append]; show acc.length + 1 ≤ _; omega)
        rw [List.append_assoc] at this
        exact this
theorem refFits_ev : Ev (fun k => dunnageref14_Fits.f k nodes l1 l2 pods a b req.f0 req.f1 req.f2 req.f3) ((chs nodes pods req nodes).map fun c => c.f0) :=
  refFits0 nodes l1 l2 pods a b req hq hn h hl hl2 nodes.length 0 [] (by omega) (Nat.le_refl _)
theorem refOne0 (cs : List S164) (hcs : ∀ c ∈ cs, leftO nodes pods req c.f0 = some c.f1) (hlc : cs.length ≤ 1000000000) :
    ∀ (m i j : Nat) (hj : j < cs.length), i + m = cs.length → Ev (fun k => dunnageref14_One.l0 k true (cs.map fun c => c.f0) (j : Int) (i : Int) nodes l1 l2 pods a b req.f0 req.f1 req.f2 req.f3) (bestF cs[j] (cs.drop i)).f0 := by
  intro m
  induction m with
  | zero =>
    intro i j hj hi
    rw [List.drop_of_length_le (by omega)]
    refine Ev.step (f := fun k => dunnageref14_One.j1 k true (cs.map fun c => c.f0) (j : Int) (i : Int) false nodes l1 l2 pods a b req.f0 req.f1 req.f2 req.f3) (fun k => ?_) ?_
    · simp only [dunnageref14_One.l0]
      rw [if_neg (by rw [List.length_map]; omega)]
    · refine Ev.step (f := fun _ => some cs[j].f0) (fun k => ?_) (Ev.now _)
      simp only [dunnageref14_One.j1, Bool.false_eq_true, if_false]
      rw [if_pos (by omega), if_pos (by rw [List.length_map]; omega), rd_map1 cs j hj]
  | succ m ih =>
    intro i j hj hi
    have hlt : i < cs.length := by omega
    have hw : wrap64 ((i : Int) + 1) = ((i + 1 : Nat) : Int) := by unfold wrap64; omega
    have hd : cs.drop i = cs[i] :: cs.drop (i + 1) := List.drop_eq_getElem_cons hlt
    have hei := refLeft_ev nodes l1 l2 pods a b req hq hn h hl hl2 cs[i].f0
    have hej := refLeft_ev nodes l1 l2 pods a b req hq hn h hl hl2 cs[j].f0
    rw [hcs _ (List.getElem_mem hlt)] at hei
    rw [hcs _ (List.getElem_mem hj)] at hej
    rw [hd]
    refine Ev.step (f := fun k => dunnageref14_One.j1 k true (cs.map fun c => c.f0) (j : Int) (i : Int) true nodes l1 l2 pods a b req.f0 req.f1 req.f2 req.f3) (fun k => ?_) ?_
    · simp only [dunnageref14_One.l0]
      rw [if_pos (by rw [List.length_map]; omega)]
    · refine Ev.step (f := fun k => (dunnageref14_Left.f k nodes l1 l2 pods a b cs[i].f0 req.f0 req.f1 req.f2 req.f3).bind fun bt109 => ((dunnageref14_Left.f k nodes l1 l2 pods a b cs[j].f0 req.f0 req.f1 req.f2 req.f3).bind fun bt116 => ((dunnageref14_Tighter.f bt109.1 bt109.2.1 bt109.2.2.1 bt109.2.2.2.1 bt116.1 bt116.2.1 bt116.2.2.1 bt116.2.2.2.1).bind fun t122 => (if t122 = true then (dunnageref14_One.l0 k true (cs.map fun c => c.f0) (i : Int) ((i + 1 : Nat) : Int) nodes l1 l2 pods a b req.f0 req.f1 req.f2 req.f3) else (dunnageref14_One.l0 k true (cs.map fun c => c.f0) (j : Int) ((i + 1 : Nat) : Int) nodes l1 l2 pods a b req.f0 req.f1 req.f2 req.f3))))) (fun k => ?_) (Ev.bind hei (Ev.bind hej ?_))
      · simp only [dunnageref14_One.j1, if_true]
        rw [if_pos (by omega), if_pos (by rw [List.length_map]; omega), rd_map1 cs i hlt, rd_map1 cs j hj, hw]
        simp only [show (0 : Int) ≤ (j : Int) from by omega, show (j : Int) < ((cs.map fun c => c.f0).length : Int) from by rw [List.length_map]; omega, if_true]
      · have e : tighterF cs[i].f1.f0 cs[i].f1.f1 cs[i].f1.f2 cs[i].f1.f3 cs[j].f1.f0 cs[j].f1.f1 cs[j].f1.f2 cs[j].f1.f3 = tightV cs[i].f1 cs[j].f1 := (tight_eq ..).symm
        simp only [leftB, okV, dunnageref14_Tighter.f, Option.bind_some, e]
        rw [bestF]
        by_cases ht : tightV cs[i].f1 cs[j].f1 = true
        · simp only [ht, if_true]; exact ih (i + 1) i hlt (by omega)
        · simp only [ht, if_false]; exact ih (i + 1) j hj (by omega)
end
theorem pureFitTells : dunnagelaw14_FitTells.Pure := by
  intro s t req oth hs ht hq ho
  obtain ⟨⟨_, hs0⟩, _, _⟩ := hs
  obtain ⟨⟨_, ht0⟩, _, _⟩ := ht
  have hq := uvO hq
  obtain ⟨few, hfew, hf⟩ := few14 s.f0 s.f1 s.f2 [] 0 0 t.f0 t.f1 t.f2
  have hn : ∀ n ∈ s.f0, uv n.f2 ∧ uv n.f3 := fun n hn => ⟨uvO (hs0 n hn).2.2.1, uvO (hs0 n hn).2.2.2⟩
  have hp : ∀ q ∈ t.f0, uv q.f3 := fun q hq => uvO (ht0 q hq).2.2.2.1
  have hall : Ev (fun k => dunnagelaw14_FitTells.f k s.f0 s.f1 s.f2 t.f0 t.f1 t.f2 req.f0 req.f1 req.f2 req.f3 oth.f0 oth.f1 oth.f2 oth.f3) true := by
    unfold dunnagelaw14_FitTells.f
    refine Ev.bind law14_up_ev ?_
    rw [hfew]
    simp only [Option.bind_some]
    cases few with
    | false => simp only [Bool.false_eq_true, if_false]; exact Ev.now _
    | true =>
      have hl : s.f0.length ≤ 1000000000 := by have := (hf rfl).1; omega
      have hl2 : t.f0.length ≤ 1000000000 := by have := (hf rfl).2.2; omega
      simp only [if_true, fit_Tighter.f, dunnageref14_Tighter.f, Option.bind_some, tight_eq, beq_self_eq_true]
      have hfits := fits_ev s.f0 s.f1 s.f2 t.f0 t.f1 t.f2 req hq hn hp hl hl2
      have hrfits := refFits_ev s.f0 s.f1 s.f2 t.f0 t.f1 t.f2 req hq hn hp hl hl2
      have he := first_ev s.f0 s.f1 s.f2 t.f0 t.f1 t.f2 req hq hn hp hl hl2
      have hb := best_ev s.f0 s.f1 s.f2 t.f0 t.f1 t.f2 req hq hn hp hl hl2
      have hlen := chs_len s.f0 t.f0 req s.f0
      have hleft : ∀ c ∈ chs s.f0 t.f0 req s.f0, leftO s.f0 t.f0 req c.f0 = some c.f1 := fun c hc => chs_left1 hc
      refine Ev.bind hfits (Ev.bind hrfits (Ev.bind (ints_self _ (by rw [List.length_map]; omega)) ?_))
      simp only [if_true]
      have hone : ∀ best, Ev (fun k => dunnageref14_One.f k s.f0 s.f1 s.f2 t.f0 t.f1 t.f2 req.f0 req.f1 req.f2 req.f3 best) (if best = true then bestL (chs s.f0 t.f0 req s.f0) else firstL (chs s.f0 t.f0 req s.f0)) := by
        intro best
        unfold dunnageref14_One.f
        refine Ev.bind hrfits ?_
        generalize chs s.f0 t.f0 req s.f0 = C at hlen hleft ⊢
        cases C with
        | nil =>
          simp only [List.map_nil, List.length_nil, Int.natCast_zero, if_true, bestL, firstL, ite_self]
          exact Ev.now _
        | cons c l =>
          have h0 : ¬ (((c :: l).map fun c => c.f0).length : Int) = 0 := by simp only [List.map_cons, List.length_cons]; omega
          simp only [h0, if_false]
          cases best with
          | true =>
            exact refOne0 s.f0 s.f1 s.f2 t.f0 t.f1 t.f2 req hq hn hp hl hl2 (c :: l) hleft (by omega) l.length 1 0 (by simp) (by simp; omega)
          | false =>
            simp only [Bool.false_eq_true, if_false, firstL]
            refine Ev.step (f := fun k => dunnageref14_One.j1 k false ((c :: l).map fun c => c.f0) 0 1 false s.f0 s.f1 s.f2 t.f0 t.f1 t.f2 req.f0 req.f1 req.f2 req.f3) (fun k => ?_) ?_
            · simp only [dunnageref14_One.l0, ite_self]
            · refine Ev.step (f := fun _ => some c.f0) (fun k => ?_) (Ev.now _)
              simp only [dunnageref14_One.j1, Bool.false_eq_true, if_false]
              rw [if_pos (Int.le_refl _), if_pos (show (0 : Int) < (((c :: l).map fun c => c.f0).length : Int) by simp only [List.map_cons, List.length_cons]; omega)]
              rfl
      have h1 := hone false
      have h2 := hone true
      simp only [Bool.false_eq_true, if_false, if_true] at h1 h2
      refine Ev.bind he (Ev.bind h1 ?_)
      simp only [if_true]
      refine Ev.bind hb (Ev.bind h2 ?_)
      simp only [beq_self_eq_true]
      exact Ev.now _
  exact hall.rounds
end Go.Proofs.Ytppfkbigeknedaa.Q
