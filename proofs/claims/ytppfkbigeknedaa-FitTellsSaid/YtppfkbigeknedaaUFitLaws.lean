/- Where a request fits, in plain lists: the choices, the first, the best. -/
import Derived.Test.YtppfkbigeknedaaURoomLaws
import Derived.Test.YtppfkbigeknedaaUFitOrd
import Derived.Test.YtppfkbigeknedaaUQfitFits
import Derived.Test.YtppfkbigeknedaaUQdunnagelaw14up
import Derived.Test.YtppfkbigeknedaaUQdunnageref05Few
namespace Go.Proofs.Ytppfkbigeknedaa.Q
open Go.RowKit Go.Proofs.YtppfkbigeknedaaW.PrintWords
set_option linter.unusedVariables false
set_option linter.unusedSimpArgs false
def restO (nodes : List S150) (pods : List S70) (node : Int) : Option S33 :=
  match fndN nodes node with
  | none => none
  | some n => if vle (useV pods node) vmx then (if vle n.f3 n.f2 then (if vle (useV pods node) (vsub n.f2 n.f3) then some (vsub (vsub n.f2 n.f3) (useV pods node)) else none) else none) else none
theorem restT_some {nodes : List S150} {pods : List S70} {node : Int} {v : S33} (h : restO nodes pods node = some v) : restT nodes pods node = okT v := by
  unfold restO at h; unfold restT
  split at h
  · cases h
  · rename_i n hf
    rw [hf]
    simp only
    split at h
    · rename_i c1
      rw [if_pos c1]
      split at h
      · rename_i c2
        rw [if_pos c2]
        split at h
        · rename_i c3
          rw [if_pos c3]
          obtain rfl := Option.some.inj h
          rfl
        · cases h
      · cases h
    · cases h
theorem restT_none {nodes : List S150} {pods : List S70} {node : Int} (h : restO nodes pods node = none) : ∃ c, restT nodes pods node = errT c := by
  unfold restO at h; unfold restT
  split at h
  · rename_i hf; rw [hf]; exact ⟨_, rfl⟩
  · rename_i n hf
    rw [hf]
    simp only
    split at h
    · rename_i c1
      rw [if_pos c1]
      split at h
      · rename_i c2
        rw [if_pos c2]
        split at h
        · cases h
        · rename_i c3; rw [if_neg c3]; exact ⟨_, rfl⟩
      · rename_i c2; rw [if_neg c2]; exact ⟨_, rfl⟩
    · rename_i c1; rw [if_neg c1]; exact ⟨_, rfl⟩
theorem rest_uv {nodes : List S150} {pods : List S70} {node : Int} {v : S33} (hn : ∀ n ∈ nodes, uv n.f2 ∧ uv n.f3) (hp : ∀ q ∈ pods, uv q.f3) (h : restO nodes pods node = some v) : uv v := by
  unfold restO at h
  split at h
  · cases h
  · rename_i n hf
    obtain ⟨hm, _⟩ := fndN_mem hf
    obtain ⟨h2, h3⟩ := hn n hm
    split at h
    · rename_i c1
      split at h
      · rename_i c2
        split at h
        · rename_i c3
          obtain rfl := Option.some.inj h
          exact sub_uv (sub_uv h2 h3 c2) (uv_of (vsum_nn _ (use_uv hp _)) c1) c3
        · cases h
      · cases h
    · cases h
def leftO (nodes : List S150) (pods : List S70) (req : S33) (id : Int) : Option S33 := (restO nodes pods id).bind fun r => if vle req r then some (vsub r req) else none
def chs (nodes : List S150) (pods : List S70) (req : S33) (l : List S150) : List S164 := l.filterMap fun n => (leftO nodes pods req n.f0).map fun v => ⟨n.f0, v⟩
theorem chs_some {nodes : List S150} {pods : List S70} {req : S33} {n : S150} {l : List S150} {v : S33} (h : leftO nodes pods req n.f0 = some v) : chs nodes pods req (n :: l) = ⟨n.f0, v⟩ :: chs nodes pods req l := by
  unfold chs; rw [List.filterMap_cons, h]; rfl
theorem chs_none {nodes : List S150} {pods : List S70} {req : S33} {n : S150} {l : List S150} (h : leftO nodes pods req n.f0 = none) : chs nodes pods req (n :: l) = chs nodes pods req l := by
  unfold chs; rw [List.filterMap_cons, h]; rfl
theorem choices0 (nodes : List S150) (l1 : List S260) (l2 : List S70) (pods : List S70) (a b : Int) (req : S33) (hq : uv req) (hn : ∀ n ∈ nodes, uv n.f2 ∧ uv n.f3) (h : ∀ q ∈ pods, uv q.f3) (hl : nodes.length ≤ 1000000000) (hl2 : pods.length ≤ 1000000000) :
    ∀ (m i : Nat) (acc : List S164), i + m = nodes.length → acc.length ≤ i → Ev (fun k => fit_choices.l0 k acc nodes (nodes.length : Int) (i : Int) nodes l1 l2 pods a b req.f0 req.f1 req.f2 req.f3) (acc ++ chs nodes pods req (nodes.drop i))
  | 0, i, acc, hi, ha => by
    refine Ev.step (f := fun _ => some acc) (fun k => ?_) ?_
    · simp only [fit_choices.l0]
      rw [if_neg (by omega)]
    · rw [List.drop_of_length_le (by omega)]
      show Ev _ (acc ++ [])
      rw [List.append_nil]; exact Ev.now _
  | m + 1, i, acc, hi, ha => by
    have hlt : i < nodes.length := by omega
    have hw : wrap64 ((i : Int) + 1) = ((i + 1 : Nat) : Int) := by unfold wrap64; omega
    have hd : nodes.drop i = nodes[i] :: nodes.drop (i + 1) := List.drop_eq_getElem_cons hlt
    have ih := choices0 nodes l1 l2 pods a b req hq hn h hl hl2 m (i + 1)
    rw [hd]
    refine Ev.step (f := fun k => (room_Rest.f k nodes l1 l2 pods a b nodes[i].f0).bind fun bt106 => (if bt106.2.2.2.2.isNone = true then ((vec_Sub.f bt106.1 bt106.2.1 bt106.2.2.1 bt106.2.2.2.1 req.f0 req.f1 req.f2 req.f3).bind fun bt113 => (if bt113.2.2.2.2.isNone = true then (if acc.length < 3518437208883 then (fit_choices.l0 k (acc ++ [(⟨nodes[i].f0, (⟨bt113.1, bt113.2.1, bt113.2.2.1, bt113.2.2.2.1⟩ : S33)⟩ : S164)]) nodes (nodes.length : Int) ((i + 1 : Nat) : Int) nodes l1 l2 pods a b req.f0 req.f1 req.f2 req.f3) else (none)) else (fit_choices.l0 k acc nodes (nodes.length : Int) ((i + 1 : Nat) : Int) nodes l1 l2 pods a b req.f0 req.f1 req.f2 req.f3))) else (fit_choices.l0 k acc nodes (nodes.length : Int) ((i + 1 : Nat) : Int) nodes l1 l2 pods a b req.f0 req.f1 req.f2 req.f3))) (fun k => ?_) (Ev.bind (rest_ev nodes l1 l2 pods a b nodes[i].f0 hn h hl hl2) ?_)
    · simp only [fit_choices.l0]
      rw [if_pos (by omega), if_pos (by omega), if_pos (by omega), rd150_nat nodes i hlt, hw]
    · cases hr : restO nodes pods nodes[i].f0 with
      | none =>
        obtain ⟨c, hc⟩ := restT_none hr
        rw [hc, chs_none (by unfold leftO; rw [hr]; rfl)]
        simp only [errT, Option.isNone_some, Bool.false_eq_true, if_false]
        exact ih acc (by omega) (by omega)
      | some v =>
        rw [restT_some hr]
        simp only [okT, Option.isNone_none, if_true, sub4 v req (rest_uv hn h hr) hq, Option.bind_some]
        by_cases hv : vle req v
        · rw [chs_some (v := vsub v req) (by unfold leftO; rw [hr, Option.bind_some, if_pos hv])]
          simp only [hv, if_true, Option.isNone_none, show acc.length < 3518437208883 from by omega]
          have := ih (acc ++ [(⟨nodes[i].f0, vsub v req⟩ : S164)]) (by omega) (by rw [List.length_append]; show acc.length + 1 ≤ _; omega)
          rw [List.append_assoc] at this
          exact this
        · rw [chs_none (by unfold leftO; rw [hr, Option.bind_some, if_neg hv])]
          simp only [hv, if_false, errT, Option.isNone_some, Bool.false_eq_true]
          exact ih acc (by omega) (by omega)
theorem choices_ev (nodes : List S150) (l1 : List S260) (l2 : List S70) (pods : List S70) (a b : Int) (req : S33) (hq : uv req) (hn : ∀ n ∈ nodes, uv n.f2 ∧ uv n.f3) (h : ∀ q ∈ pods, uv q.f3) (hl : nodes.length ≤ 1000000000) (hl2 : pods.length ≤ 1000000000) :
    Ev (fun k => fit_choices.f k nodes l1 l2 pods a b req.f0 req.f1 req.f2 req.f3) (chs nodes pods req nodes) :=
  choices0 nodes l1 l2 pods a b req hq hn h hl hl2 nodes.length 0 [] (by omega) (Nat.le_refl _)
theorem chs_len (nodes : List S150) (pods : List S70) (req : S33) (l : List S150) : (chs nodes pods req l).length ≤ l.length := List.length_filterMap_le _ _
theorem rd164_nat (l : List S164) (k : Nat) (h : k < l.length) : rd_T164 l (k : Int) = l[k] := by
  unfold rd_T164; rw [List.getD_eq_getElem?_getD, Int.toNat_natCast, List.getElem?_eq_getElem h]; rfl
theorem fits0 (l : List S164) (hl : l.length ≤ 1000000000) : ∀ (m i : Nat) (acc : List Int), i + m = l.length → acc.length ≤ i → Ev (fun k => fit_Fits.l0 k acc l (l.length : Int) (i : Int)) (acc ++ (l.drop i).map fun c => c.f0)
  | 0, i, acc, hi, ha => by
    refine Ev.step (f := fun _ => some acc) (fun k => ?_) ?_
    · simp only [fit_Fits.l0]
      rw [if_neg (by omega)]
    · rw [List.drop_of_length_le (by omega)]
      show Ev _ (acc ++ [])
      rw [List.append_nil]; exact Ev.now _
  | m + 1, i, acc, hi, ha => by
    have hlt : i < l.length := by omega
    have hw : wrap64 ((i : Int) + 1) = ((i + 1 : Nat) : Int) := by unfold wrap64; omega
    have hd : l.drop i = l[i] :: l.drop (i + 1) := List.drop_eq_getElem_cons hlt
    refine Ev.step (f := fun k => fit_Fits.l0 k (acc ++ [l[i].f0]) l (l.length : Int) ((i + 1 : Nat) : Int)) (fun k => ?_) ?_
    · simp only [fit_Fits.l0]
      rw [if_pos (by omega), if_pos (by omega), if_pos (by omega), if_pos (by omega), rd164_nat l i hlt, hw]
    · have := fits0 l hl m (i + 1) (acc ++ [l[i].f0]) (by omega) (by rw [List.length_append]; show acc.length + 1 ≤ _; omega)
      rw [hd, List.map_cons]
      rw [List.append_assoc] at this
      exact this
def tightV (a b : S33) : Bool := tightF a.f0 a.f1 a.f2 a.f3 b.f0 b.f1 b.f2 b.f3
def bestF (b : S164) : List S164 → S164
  | [] => b
  | c :: l => if tightV c.f1 b.f1 = true then bestF c l else bestF b l
theorem best0 (l : List S164) (hl : l.length ≤ 1000000000) : ∀ (m i : Nat) (b : S164), 0 < i → i + m = l.length → Ev (fun k => fit_Best.l0 k l (l.length : Int) (i : Int) b.f0 b.f1.f0 b.f1.f1 b.f1.f2 b.f1.f3) (bestF b (l.drop i)).f0
  | 0, i, b, h0, hi => by
    refine Ev.step (f := fun _ => some b.f0) (fun k => ?_) ?_
    · simp only [fit_Best.l0]
      rw [if_neg (by omega)]
    · rw [List.drop_of_length_le (by omega)]
      exact Ev.now _
  | m + 1, i, b, h0, hi => by
    have hlt : i < l.length := by omega
    have hw : wrap64 ((i : Int) + 1) = ((i + 1 : Nat) : Int) := by unfold wrap64; omega
    have hd : l.drop i = l[i] :: l.drop (i + 1) := List.drop_eq_getElem_cons hlt
    rw [hd]
    by_cases ht : tightV l[i].f1 b.f1 = true
    · refine Ev.step (f := fun k => fit_Best.l0 k l (l.length : Int) ((i + 1 : Nat) : Int) l[i].f0 l[i].f1.f0 l[i].f1.f1 l[i].f1.f2 l[i].f1.f3) (fun k => ?_) ?_
      · simp only [fit_Best.l0]
        rw [if_pos (by omega), if_pos (by omega), if_pos (by omega), if_neg (by omega), rd164_nat l i hlt]
        unfold fit_Tighter.f
        rw [Option.bind_some, if_pos (show tightF _ _ _ _ _ _ _ _ = true from ht), hw]
      · rw [bestF, if_pos ht]; exact best0 l hl m (i + 1) l[i] (by omega) (by omega)
    · refine Ev.step (f := fun k => fit_Best.l0 k l (l.length : Int) ((i + 1 : Nat) : Int) b.f0 b.f1.f0 b.f1.f1 b.f1.f2 b.f1.f3) (fun k => ?_) ?_
      · simp only [fit_Best.l0]
        rw [if_pos (by omega), if_pos (by omega), if_pos (by omega), if_neg (by omega), rd164_nat l i hlt]
        unfold fit_Tighter.f
        rw [Option.bind_some, if_neg (show ¬ tightF _ _ _ _ _ _ _ _ = true from ht), hw]
      · rw [bestF, if_neg ht]; exact best0 l hl m (i + 1) b (by omega) (by omega)
def bestL : List S164 → Int
  | [] => 0
  | c :: l => (bestF c l).f0
theorem best1 (l : List S164) (hl : l.length ≤ 1000000000) : Ev (fun k => fit_Best.l0 k l (l.length : Int) 0 0 0 0 0 0) (bestL l) := by
  cases l with
  | nil =>
    refine Ev.step (f := fun _ => some 0) (fun k => ?_) (Ev.now _)
    simp only [fit_Best.l0]
    rw [if_neg (by simp)]
  | cons c l =>
    refine Ev.step (f := fun k => fit_Best.l0 k (c :: l) ((c :: l).length : Int) ((1 : Nat) : Int) c.f0 c.f1.f0 c.f1.f1 c.f1.f2 c.f1.f3) (fun k => ?_) ?_
    · simp only [fit_Best.l0]
      rw [if_pos (show (0 : Int) < ((c :: l).length : Int) by rw [List.length_cons]; omega), if_pos (Int.le_refl _), if_pos (show (0 : Int) < ((c :: l).length : Int) by rw [List.length_cons]; omega), if_pos trivial]
      have : rd_T164 (c :: l) 0 = c := rfl
      rw [this, show wrap64 (0 + 1) = ((1 : Nat) : Int) by unfold wrap64; omega]
    · exact best0 (c :: l) hl l.length 1 c (by omega) (by rw [List.length_cons]; omega)
def firstL : List S164 → Int
  | [] => 0
  | c :: _ => c.f0
theorem first1 (l : List S164) : Ev (fun k => fit_First.l0 k l (l.length : Int) 0) (firstL l) := by
  cases l with
  | nil =>
    refine Ev.step (f := fun _ => some 0) (fun k => ?_) (Ev.now _)
    simp only [fit_First.l0]
    rw [if_neg (by simp)]
  | cons c l =>
    refine Ev.step (f := fun k => some c.f0) (fun k => ?_) (Ev.now _)
    simp only [fit_First.l0]
    rw [if_pos (show (0 : Int) < ((c :: l).length : Int) by rw [List.length_cons]; omega), if_pos (Int.le_refl _), if_pos (show (0 : Int) < ((c :: l).length : Int) by rw [List.length_cons]; omega)]
    rfl
section
variable (nodes : List S150) (l1 : List S260) (l2 : List S70) (pods : List S70) (a b : Int) (req : S33) (hq : uv req) (hn : ∀ n ∈ nodes, uv n.f2 ∧ uv n.f3) (h : ∀ q ∈ pods, uv q.f3) (hl : nodes.length ≤ 1000000000) (hl2 : pods.length ≤ 1000000000)
include hq hn h hl hl2
theorem fits_ev : Ev (fun k => fit_Fits.f k nodes l1 l2 pods a b req.f0 req.f1 req.f2 req.f3) ((chs nodes pods req nodes).map fun c => c.f0) :=
  Ev.bind (choices_ev nodes l1 l2 pods a b req hq hn h hl hl2) (fits0 _ (Nat.le_trans (chs_len ..) hl) (chs nodes pods req nodes).length 0 [] (by omega) (Nat.le_refl _))
theorem first_ev : Ev (fun k => fit_First.f k nodes l1 l2 pods a b req.f0 req.f1 req.f2 req.f3) (firstL (chs nodes pods req nodes)) :=
  Ev.bind (choices_ev nodes l1 l2 pods a b req hq hn h hl hl2) (first1 _)
theorem best_ev : Ev (fun k => fit_Best.f k nodes l1 l2 pods a b req.f0 req.f1 req.f2 req.f3) (bestL (chs nodes pods req nodes)) :=
  Ev.bind (choices_ev nodes l1 l2 pods a b req hq hn h hl hl2) (best1 _ (Nat.le_trans (chs_len ..) hl))
end
def upN : List S150 := [⟨3, 1, ⟨5, 0, 0, 0⟩, ⟨0, 0, 0, 0⟩⟩, ⟨4, 1, ⟨3, 0, 0, 0⟩, ⟨0, 0, 0, 0⟩⟩]
theorem upN_uv : ∀ n ∈ upN, uv n.f2 ∧ uv n.f3 := by
  intro n hn
  unfold upN at hn
  simp only [List.mem_cons, List.not_mem_nil, or_false] at hn
  rcases hn with rfl | rfl <;> (unfold uv u64N; decide)
theorem up2 : chs upN [] ⟨2, 0, 0, 0⟩ upN = [⟨3, ⟨3, 0, 0, 0⟩⟩, ⟨4, ⟨1, 0, 0, 0⟩⟩] := rfl
theorem up6 : chs upN [] ⟨6, 0, 0, 0⟩ upN = [] := rfl
theorem law14_up_ev : Ev (fun k => dunnagelaw14_up.f k) true := by
  have u2 : uv ⟨2, 0, 0, 0⟩ := by unfold uv u64N; decide
  have u6 : uv ⟨6, 0, 0, 0⟩ := by unfold uv u64N; decide
  have f2 := first_ev upN [] [] [] 0 0 ⟨2, 0, 0, 0⟩ u2 upN_uv (by simp) (by decide) (by decide)
  have b2 := best_ev upN [] [] [] 0 0 ⟨2, 0, 0, 0⟩ u2 upN_uv (by simp) (by decide) (by decide)
  have b6 := best_ev upN [] [] [] 0 0 ⟨6, 0, 0, 0⟩ u6 upN_uv (by simp) (by decide) (by decide)
  rw [up2] at f2 b2
  rw [up6] at b6
  have e : bestL [⟨3, ⟨3, 0, 0, 0⟩⟩, ⟨4, ⟨1, 0, 0, 0⟩⟩] = 4 := by
    unfold bestL bestF tightV
    simp only [tight_eq]
    rfl
  rw [e] at b2
  have g : Ev (fun k => (fit_First.f k upN [] [] [] 0 0 2 0 0 0).bind fun t105 => (if t105 = 3 then ((fit_Best.f k upN [] [] [] 0 0 2 0 0 0).bind fun t106 => (if t106 = 4 then ((fit_Best.f k upN [] [] [] 0 0 6 0 0 0).bind fun t107 => (some (t107 == 0))) else (some false))) else (some false))) true := by
    refine Ev.bind f2 ?_
    simp only [firstL, if_true]
    refine Ev.bind b2 ?_
    simp only [if_true]
    refine Ev.bind b6 ?_
    exact Ev.now _
  exact g
theorem few14 (nodes : List S150) (l1 : List S260) (l2 : List S70) (wants : List S185) (a1 a2 : Int) (pods : List S70) (b1 b2 : Int) : ∃ b, dunnageref05_Few.f nodes l1 l2 wants a1 a2 pods b1 b2 = some b ∧ (b = true → nodes.length ≤ 40 ∧ wants.length ≤ 40 ∧ pods.length ≤ 40) := by
  unfold dunnageref05_Few.f dunnageref03_Few.f
  by_cases h1 : (nodes.length : Int) ≤ 40 <;> by_cases h2 : (l1.length : Int) ≤ 40 <;> by_cases h3 : (wants.length : Int) ≤ 40 <;> by_cases h4 : (l2.length : Int) ≤ 40 <;> by_cases h5 : (pods.length : Int) ≤ 40 <;> simp [h1, h2, h3, h4, h5] <;> omega
end Go.Proofs.Ytppfkbigeknedaa.Q
