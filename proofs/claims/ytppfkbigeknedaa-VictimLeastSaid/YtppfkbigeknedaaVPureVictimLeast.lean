/- VictimLeast, in plain lists. -/
import Derived.Test.YtppfkbigeknedaaVStatVictimLeast
import Derived.Test.YtppfkbigeknedaaVPodLaws
import Derived.Test.YtppfkbigeknedaaVRoomLaws
namespace Go.Proofs.Ytppfkbigeknedaa.Q
open Go.RowKit Go.Proofs.YtppfkbigeknedaaW.PrintWords
set_option linter.unusedVariables false
set_option linter.unusedSimpArgs false
theorem vle_trans {a b c : S33} (h : vle a b) (k : vle b c) : vle a c := ⟨Int.le_trans h.1 k.1, Int.le_trans h.2.1 k.2.1, Int.le_trans h.2.2.1 k.2.2.1, Int.le_trans h.2.2.2 k.2.2.2⟩
theorem vle_vadd {a b c : S33} (h : vle a b) : vle (vadd a c) (vadd b c) := by
  obtain ⟨h0, h1, h2, h3⟩ := h
  unfold vle vadd; simp only; omega
theorem vsum_filter (l : List S70) (p q : S70 → Bool) (h : ∀ x ∈ l, uv x.f3) (hpq : ∀ x, p x = true → q x = true) : vle (vsum ((l.filter p).map fun x => x.f3)) (vsum ((l.filter q).map fun x => x.f3)) := by
  induction l with
  | nil => exact ⟨Int.le_refl _, Int.le_refl _, Int.le_refl _, Int.le_refl _⟩
  | cons x l ih =>
    have ih := ih (fun y hy => h y (by simp [hy]))
    obtain ⟨n0, n1, n2, n3⟩ := (h x (by simp)).nn
    rw [List.filter_cons, List.filter_cons]
    cases hp : p x with
    | true =>
      rw [if_pos rfl, hpq x hp, if_pos rfl, List.map_cons, List.map_cons]
      obtain ⟨a0, a1, a2, a3⟩ := ih
      show vle (vadd x.f3 _) (vadd x.f3 _)
      unfold vle vadd; simp only; omega
    | false =>
      rw [if_neg (by simp)]
      cases hq : q x with
      | false => rw [if_neg (by simp)]; exact ih
      | true =>
        rw [if_pos rfl, List.map_cons]
        refine vle_trans ih ?_
        show vle _ (vadd x.f3 _)
        unfold vle vadd; simp only; omega
def roomB (nodes : List S150) (pods : List S70) (node : Int) (req : S33) (L : List Int) : Bool :=
  match fndN nodes node with
  | some n => decide (vle n.f3 n.f2 ∧ vle (vadd (useV (pods.filter fun q => !goneP node L q) node) req) (vsub n.f2 n.f3))
  | none => false
theorem room_mono (nodes : List S150) (pods : List S70) (node : Int) (req : S33) (h : ∀ q ∈ pods, uv q.f3) {L L' : List Int} (hs : ∀ v ∈ L, v ∈ L') (hr : roomB nodes pods node req L = true) : roomB nodes pods node req L' = true := by
  unfold roomB at *
  cases hf : fndN nodes node with
  | none => rw [hf] at hr; exact hr
  | some n =>
    rw [hf] at hr
    simp only [decide_eq_true_eq] at hr ⊢
    refine ⟨hr.1, vle_trans (vle_vadd ?_) hr.2⟩
    unfold useV
    rw [List.filter_filter, List.filter_filter]
    refine vsum_filter pods _ _ h (fun x hx => ?_)
    simp only [Bool.and_eq_true, Bool.not_eq_true'] at hx ⊢
    refine ⟨hx.1, ?_⟩
    have h2 := hx.2
    unfold goneP at *
    cases hn : (x.f4 == node) with
    | false => rfl
    | true =>
      rw [hn, Bool.true_and] at h2
      rw [Bool.true_and]
      rw [List.any_eq_false] at h2 ⊢
      exact fun v hv => h2 v (hs v hv)
def wanT : Option S185 → Int × Int × Int × Int × Int × Bool × Bool
  | none => (0, 0, 0, 0, 0, false, false)
  | some x => (x.f0, x.f1.f0, x.f1.f1, x.f1.f2, x.f1.f3, x.f2, true)
theorem rd185_nat (l : List S185) (k : Nat) (h : k < l.length) : rd_T185 l (k : Int) = l[k] := by
  unfold rd_T185; rw [List.getD_eq_getElem?_getD, Int.toNat_natCast, List.getElem?_eq_getElem h]; rfl
theorem want0 (l : List S185) (id : Int) (hl : l.length ≤ 1000000000) : ∀ (m i : Nat), i + m = l.length → Ev (fun k => cluster_Want.l0 k id l (l.length : Int) (i : Int)) (wanT ((l.drop i).find? fun x => x.f0 == id))
  | 0, i, hi => by
    refine Ev.step (f := fun _ => some (wanT none)) (fun k => ?_) ?_
    · simp only [cluster_Want.l0]
      rw [if_neg (by omega)]; rfl
    · rw [List.drop_of_length_le (by omega)]; exact Ev.now _
  | m + 1, i, hi => by
    have hlt : i < l.length := by omega
    have hw : wrap64 ((i : Int) + 1) = ((i + 1 : Nat) : Int) := by unfold wrap64; omega
    have hd : l.drop i = l[i] :: l.drop (i + 1) := List.drop_eq_getElem_cons hlt
    rw [hd]
    by_cases hn : l[i].f0 = id
    · refine Ev.step (f := fun _ => some (wanT (some l[i]))) (fun k => ?_) ?_
      · simp only [cluster_Want.l0]
        rw [if_pos (by omega), if_pos (by omega), if_pos (by omega), rd185_nat l i hlt, if_pos hn]
        rfl
      · rw [List.find?_cons_of_pos (by simpa using hn)]; exact Ev.now _
    · refine Ev.step (f := fun k => cluster_Want.l0 k id l (l.length : Int) ((i + 1 : Nat) : Int)) (fun k => ?_) ?_
      · simp only [cluster_Want.l0]
        rw [if_pos (by omega), if_pos (by omega), if_pos (by omega), rd185_nat l i hlt, if_neg hn, hw]
      · rw [List.find?_cons_of_neg (by simpa using hn)]; exact want0 l id hl m (i + 1) (by omega)
theorem request_ev (wants : List S185) (a1 a2 : Int) (p : S70) (hl : wants.length ≤ 1000000000) (hw : ∀ x ∈ wants, uv x.f1) (hp : uv p.f3) : ∃ v : S33, uv v ∧ Ev (fun k => victim_request.f k wants a1 a2 p.f0 p.f1 p.f2 p.f3.f0 p.f3.f1 p.f3.f2 p.f3.f3 p.f4) (v.f0, v.f1, v.f2, v.f3) := by
  have h := want0 wants p.f0 hl wants.length 0 (by omega)
  rw [List.drop_zero] at h
  cases hf : wants.find? (fun x => x.f0 == p.f0) with
  | none =>
    rw [hf] at h
    exact ⟨p.f3, hp, by unfold victim_request.f; exact Ev.bind h (Ev.now _)⟩
  | some x =>
    rw [hf] at h
    have hx := hw x (List.mem_of_find?_eq_some hf)
    cases hs : x.f2 with
    | true => exact ⟨x.f1, hx, by unfold victim_request.f; refine Ev.bind h ?_; simp only [wanT, if_true, hs]; exact Ev.now _⟩
    | false => exact ⟨p.f3, hp, by unfold victim_request.f; refine Ev.bind h ?_; simp only [wanT, if_true, hs]; exact Ev.now _⟩
theorem makes_ev (nodes : List S150) (l1 : List S260) (l2 : List S70) (wants : List S185) (a1 a2 : Int) (pods : List S70) (b1 b2 pod node : Int) (hn : ∀ n ∈ nodes, uv n.f2 ∧ uv n.f3) (h : ∀ q ∈ pods, uv q.f3) (hw : ∀ x ∈ wants, uv x.f1) (hl : nodes.length ≤ 40) (hl2 : pods.length ≤ 40) (hl3 : wants.length ≤ 40) :
    ∃ M : List Int → Bool, (∀ L, Ev (fun k => victim_Makes.f k nodes l1 l2 wants a1 a2 pods b1 b2 pod node L) (M L)) ∧ (∀ L L', (∀ v ∈ L, v ∈ L') → M L = true → M L' = true) := by
  cases hf : fnd pods pod with
  | none =>
    refine ⟨fun _ => false, fun L => ?_, fun _ _ _ h => h⟩
    refine Ev.congr (f := fun _ => some false) (fun k => ?_) (Ev.now _)
    unfold victim_Makes.f makesF
    rw [statePod_eq, hf]; rfl
  | some p =>
    have hp : p ∈ pods := List.mem_of_find?_eq_some hf
    obtain ⟨req, hreq, hev⟩ := request_ev wants a1 a2 p (by omega) hw (h p hp)
    refine ⟨roomB nodes pods node req, fun L => ?_, fun L L' hs => room_mono nodes pods node req h hs⟩
    have hsub : ∀ q ∈ pods.filter (fun q => !goneP node L q), uv q.f3 := fun q hq => h q (List.mem_filter.1 hq).1
    have hle := List.length_filter_le (fun q => !goneP node L q) pods
    have hr := rest_ev nodes l1 l2 (pods.filter fun q => !goneP node L q) 0 0 node hn hsub (by omega) (by omega)
    refine Ev.congr (f := fun k => (room_Rest.f k nodes l1 l2 (pods.filter fun q => !goneP node L q) 0 0 node).bind fun r => if r.2.2.2.2.isNone = true then ((victim_request.f k wants a1 a2 p.f0 p.f1 p.f2 p.f3.f0 p.f3.f1 p.f3.f2 p.f3.f3 p.f4).bind fun v => vec_Fits.f v.1 v.2.1 v.2.2.1 v.2.2.2 r.1 r.2.1 r.2.2.1 r.2.2.2.1) else some false) (fun k => ?_) (Ev.bind hr ?_)
    · unfold victim_Makes.f makesF
      rw [statePod_eq, hf, Option.bind_some]
      simp only [podT, if_true]
      rw [if_pos (by omega)]
    · unfold restT roomB
      cases hfn : fndN nodes node with
      | none => exact Ev.now _
      | some n =>
        obtain ⟨hm, _⟩ := fndN_mem hfn
        obtain ⟨h2, h3⟩ := hn n hm
        have hnn := vsum_nn _ (use_uv hsub (fun q => q.f4 == node))
        have hu : nn (useV (pods.filter fun q => !goneP node L q) node) := hnn
        simp only
        generalize useV (pods.filter fun q => !goneP node L q) node = U at hu ⊢
        by_cases c1 : vle U vmx
        · rw [if_pos c1]
          by_cases c2 : vle n.f3 n.f2
          · rw [if_pos c2]
            have hfree := sub_uv h2 h3 c2
            by_cases c3 : vle U (vsub n.f2 n.f3)
            · rw [if_pos c3]
              simp only [okT, Option.isNone_none, if_true]
              refine Ev.bind hev ?_
              have hU : uv U := uv_of hu c1
              refine Ev.congr (f := fun _ => some (decide (vle n.f3 n.f2 ∧ vle (vadd U req) (vsub n.f2 n.f3)))) (fun k => ?_) (Ev.now _)
              unfold vec_Fits.f
              rw [sub4 (vsub (vsub n.f2 n.f3) U) req (sub_uv hfree hU c3) hreq, Option.bind_some]
              by_cases c4 : vle req (vsub (vsub n.f2 n.f3) U)
              · rw [if_pos c4]
                have : vle (vadd U req) (vsub n.f2 n.f3) := by
                  obtain ⟨q0, q1, q2, q3⟩ := c4
                  unfold vle vadd
                  generalize vsub n.f2 n.f3 = F at *
                  unfold vsub at q0 q1 q2 q3
                  simp only at q0 q1 q2 q3 ⊢
                  omega
                simp [okT, c2, this]
              · rw [if_neg c4]
                have : ¬ vle (vadd U req) (vsub n.f2 n.f3) := by
                  intro hh
                  apply c4
                  obtain ⟨q0, q1, q2, q3⟩ := hh
                  unfold vadd at q0 q1 q2 q3
                  generalize vsub n.f2 n.f3 = F at *
                  unfold vle vsub
                  simp only at q0 q1 q2 q3 ⊢
                  omega
                simp [errT, this]
            · rw [if_neg c3]
              have : ¬ vle (vadd U req) (vsub n.f2 n.f3) := by
                intro hh
                apply c3
                obtain ⟨q0, q1, q2, q3⟩ := hh
                obtain ⟨r0, r1, r2, r3⟩ := hreq.nn
                unfold vadd at q0 q1 q2 q3
                simp only at q0 q1 q2 q3
                exact ⟨by omega, by omega, by omega, by omega⟩
              rw [decide_eq_false (fun hh => this hh.2)]
              exact Ev.now _
          · rw [if_neg c2, decide_eq_false (fun hh => c2 hh.1)]
            exact Ev.now _
        · rw [if_neg c1]
          have : ¬ (vle n.f3 n.f2 ∧ vle (vadd U req) (vsub n.f2 n.f3)) := by
            rintro ⟨c2, hh⟩
            apply c1
            obtain ⟨q0, q1, q2, q3⟩ := hh
            obtain ⟨r0, r1, r2, r3⟩ := hreq.nn
            obtain ⟨s0, s1, s2, s3⟩ := sub_uv h2 h3 c2
            unfold u64N at s0 s1 s2 s3
            unfold vadd at q0 q1 q2 q3
            unfold vle vmx
            simp only at q0 q1 q2 q3 ⊢
            omega
          rw [decide_eq_false this]
          exact Ev.now _
def Least (M : List Int → Bool) (out : List Int) : Prop := M out = true ∧ ∀ j : Nat, j < out.length → M (out.take j ++ out.drop (j + 1)) = false
theorem mem_cut {l : List Int} {j : Nat} {v : Int} (h : v ∈ l.take j ++ l.drop (j + 1)) : v ∈ l := by
  rcases List.mem_append.1 h with h | h
  · exact List.mem_of_mem_take h
  · exact List.mem_of_mem_drop h
theorem cut_cut (l : List Int) (i j : Nat) (hij : i ≤ j) : ∀ v, v ∈ (l.take i ++ l.drop (i + 1)).take j ++ (l.take i ++ l.drop (i + 1)).drop (j + 1) → i < l.length → v ∈ l.take (j + 1) ++ l.drop (j + 2) := by
  intro v hv hi
  have hti : (l.take i).length = i := by simp; omega
  rcases List.mem_append.1 hv with h | h
  · refine List.mem_append.2 (Or.inl ?_)
    rw [List.take_append, hti, List.take_of_length_le (by omega)] at h
    rcases List.mem_append.1 h with h | h
    · obtain ⟨n, hn, rfl⟩ := List.mem_iff_getElem.1 h
      have hn1 : n < i := by simpa [hti] using hn
      refine List.mem_iff_getElem.2 ⟨n, by simp; omega, by simp⟩
    · obtain ⟨n, hn, rfl⟩ := List.mem_iff_getElem.1 h
      have hn1 : n < j - i ∧ n < l.length - (i + 1) := by simp at hn; omega
      refine List.mem_iff_getElem.2 ⟨i + 1 + n, by simp; omega, by simp⟩
  · refine List.mem_append.2 (Or.inr ?_)
    rw [List.drop_append, hti, List.drop_of_length_le (by omega), List.nil_append, List.drop_drop] at h
    obtain ⟨n, hn, rfl⟩ := List.mem_iff_getElem.1 h
    have hn1 : n < l.length - (i + 1 + (j + 1 - i)) := by simpa using hn
    refine List.mem_iff_getElem.2 ⟨n, by simp; omega, ?_⟩
    simp only [List.getElem_drop]
    congr 1; omega
section
variable (nodes : List S150) (l1 : List S260) (l2 : List S70) (wants : List S185) (a1 a2 : Int) (pods : List S70) (b1 b2 pod node : Int) (M : List Int → Bool)
  (hM : ∀ L, Ev (fun k => victim_Makes.f k nodes l1 l2 wants a1 a2 pods b1 b2 pod node L) (M L)) (hm : ∀ L L', (∀ v ∈ L, v ∈ L') → M L = true → M L' = true)
include hM hm
theorem choose_l1 : ∀ (i : Nat) (out : List Int), out.length ≤ 1000 → i ≤ out.length → M out = true → (∀ j, i ≤ j → j < out.length → M (out.take j ++ out.drop (j + 1)) = false) →
    ∃ r, Ev (fun k => victim_Choose.l1 k pod node out ((i : Int) - 1) nodes l1 l2 wants a1 a2 pods b1 b2) (r, none) ∧ Least M r ∧ r.length ≤ 1000 ∧ ∀ v ∈ r, v ∈ out
  | 0, out, hl, hi, h1, h2 => by
    refine ⟨out, ?_, ⟨h1, fun j hj => h2 j (Nat.zero_le _) hj⟩, hl, fun v h => h⟩
    refine Ev.step (f := fun _ => some (out, none)) (fun k => ?_) (Ev.now _)
    simp only [victim_Choose.l1]
    rw [if_neg (by omega)]
  | i + 1, out, hl, hi, h1, h2 => by
    have hw : wrap64 (((i + 1 : Nat) : Int) - 1 + 1) = ((i + 1 : Nat) : Int) := by unfold wrap64; omega
    have hw2 : wrap64 (((i + 1 : Nat) : Int) - 1 - 1) = (i : Int) - 1 := by unfold wrap64; omega
    have hcl : slices_Clone_int_int.f out = some out := by unfold slices_Clone_int_int.f; rw [if_pos (by omega)]
    have hdel : slices_Delete_int_int.f out (((i + 1 : Nat) : Int) - 1) ((i + 1 : Nat) : Int) = some (out.take i ++ out.drop (i + 1)) := by
      unfold slices_Delete_int_int.f cutF
      rw [if_pos (by omega), if_pos (by omega), if_pos (by omega), show (((i + 1 : Nat) : Int) - 1).toNat = i by omega, show (((i + 1 : Nat) : Int)).toNat = i + 1 by omega]
    obtain ⟨less, hless⟩ : ∃ less, out.take i ++ out.drop (i + 1) = less := ⟨_, rfl⟩
    rw [hless] at hdel
    have hll : less.length = out.length - 1 := by rw [← hless]; simp; omega
    cases hml : M less with
    | true =>
      obtain ⟨r, hr, hL, hrl, hrs⟩ := choose_l1 i less (by omega) (by omega) hml (fun j hj hj2 => by
        have hb := h2 (j + 1) (by omega) (by omega)
        cases hc : M (less.take j ++ less.drop (j + 1)) with
        | false => rfl
        | true =>
          have := hm (less.take j ++ less.drop (j + 1)) (out.take (j + 1) ++ out.drop (j + 1 + 1)) (fun v hv => by rw [← hless] at hv; exact cut_cut out i j hj v hv (by omega)) hc
          rw [hb] at this; exact this.symm)
      refine ⟨r, ?_, hL, hrl, fun v hv => by have := hrs v hv; rw [← hless] at this; exact mem_cut this⟩
      refine Ev.step (f := fun k => (victim_Makes.f k nodes l1 l2 wants a1 a2 pods b1 b2 pod node less).bind fun t147 => (if t147 = true then (victim_Choose.l1 k pod node less ((i : Int) - 1) nodes l1 l2 wants a1 a2 pods b1 b2) else (victim_Choose.l1 k pod node out ((i : Int) - 1) nodes l1 l2 wants a1 a2 pods b1 b2))) (fun k => ?_) (Ev.bind (hM less) ?_)
      · simp only [victim_Choose.l1]
        rw [if_pos (by omega), hcl, Option.bind_some, hw, hdel, Option.bind_some, hw2]
      · rw [hml]; exact Ev.congr (fun k => if_pos rfl) hr
    | false =>
      obtain ⟨r, hr, hL, hrl, hrs⟩ := choose_l1 i out hl (by omega) h1 (fun j hj hj2 => by
        by_cases hji : j = i
        · subst hji; rw [hless]; exact hml
        · exact h2 j (by omega) hj2)
      refine ⟨r, ?_, hL, hrl, hrs⟩
      refine Ev.step (f := fun k => (victim_Makes.f k nodes l1 l2 wants a1 a2 pods b1 b2 pod node less).bind fun t147 => (if t147 = true then (victim_Choose.l1 k pod node less ((i : Int) - 1) nodes l1 l2 wants a1 a2 pods b1 b2) else (victim_Choose.l1 k pod node out ((i : Int) - 1) nodes l1 l2 wants a1 a2 pods b1 b2))) (fun k => ?_) (Ev.bind (hM less) ?_)
      · simp only [victim_Choose.l1]
        rw [if_pos (by omega), hcl, Option.bind_some, hw, hdel, Option.bind_some, hw2]
      · rw [hml]; exact Ev.congr (fun k => if_neg (by simp)) hr
theorem choose_l0 (vs : List Int) (hv : vs.length ≤ 1000) : ∀ (m n : Nat), n + m = vs.length →
    (Ev (fun k => victim_Choose.l0 k pod node vs (n : Int) nodes l1 l2 wants a1 a2 pods b1 b2) ([], some 9)) ∨
    ∃ r, Ev (fun k => victim_Choose.l0 k pod node vs (n : Int) nodes l1 l2 wants a1 a2 pods b1 b2) (r, none) ∧ Least M r ∧ r.length ≤ 1000 ∧ ∀ v ∈ r, v ∈ vs := by
  intro m
  induction m with
  | zero =>
    intro n hn
    cases hc : M (vs.take n) with
    | true =>
      have hl : (vs.take n).length = n := by simp; omega
      obtain ⟨r, hr, hL, hrl, hrs⟩ := choose_l1 nodes l1 l2 wants a1 a2 pods b1 b2 pod node M hM hm n (vs.take n) (by omega) (by omega) hc (fun j h1 h2 => by omega)
      refine Or.inr ⟨r, ?_, hL, hrl, fun v hv => List.mem_of_mem_take (hrs v hv)⟩
      have hw : wrap64 ((n : Int) - 1) = (n : Int) - 1 := by unfold wrap64; omega
      refine Ev.step (f := fun k => (victim_Makes.f k nodes l1 l2 wants a1 a2 pods b1 b2 pod node (vs.take n)).bind fun t133 => (if t133 = true then (victim_Choose.l1 k pod node (vs.take n) ((n : Int) - 1) nodes l1 l2 wants a1 a2 pods b1 b2) else (some ([], some 9)))) (fun k => ?_) (Ev.bind (hM _) (by rw [hc]; exact Ev.congr (fun k => if_pos rfl) hr))
      simp only [victim_Choose.l0]
      rw [if_pos (by omega), if_pos (by omega), Int.toNat_natCast, if_pos (show (n : Int) = (vs.length : Int) by omega), hw]
      have hcl : slices_Clone_int_int.f (vs.take n) = some (vs.take n) := by unfold slices_Clone_int_int.f; rw [if_pos (by omega)]
      rw [hcl]; rfl
    | false =>
      refine Or.inl ?_
      have hw : wrap64 ((n : Int) - 1) = (n : Int) - 1 := by unfold wrap64; omega
      refine Ev.step (f := fun k => (victim_Makes.f k nodes l1 l2 wants a1 a2 pods b1 b2 pod node (vs.take n)).bind fun t133 => (if t133 = true then ((slices_Clone_int_int.f (vs.take n)).bind fun t138 => (victim_Choose.l1 k pod node t138 (wrap64 ((n : Int) - 1)) nodes l1 l2 wants a1 a2 pods b1 b2)) else (some ([], some 9)))) (fun k => ?_) (Ev.bind (hM _) (by rw [hc]; exact Ev.congr (fun k => if_neg (by simp)) (Ev.now _)))
      simp only [victim_Choose.l0]
      rw [if_pos (by omega), if_pos (by omega), Int.toNat_natCast, if_pos (show (n : Int) = (vs.length : Int) by omega)]
  | succ m ih =>
    intro n hn
    cases hc : M (vs.take n) with
    | true =>
      have hl : (vs.take n).length = n := by simp; omega
      obtain ⟨r, hr, hL, hrl, hrs⟩ := choose_l1 nodes l1 l2 wants a1 a2 pods b1 b2 pod node M hM hm n (vs.take n) (by omega) (by omega) hc (fun j h1 h2 => by omega)
      refine Or.inr ⟨r, ?_, hL, hrl, fun v hv => List.mem_of_mem_take (hrs v hv)⟩
      have hw : wrap64 ((n : Int) - 1) = (n : Int) - 1 := by unfold wrap64; omega
      refine Ev.step (f := fun k => (victim_Makes.f k nodes l1 l2 wants a1 a2 pods b1 b2 pod node (vs.take n)).bind fun t133 => (if t133 = true then (victim_Choose.l1 k pod node (vs.take n) ((n : Int) - 1) nodes l1 l2 wants a1 a2 pods b1 b2) else (victim_Choose.l0 k pod node vs (wrap64 ((n : Int) + 1)) nodes l1 l2 wants a1 a2 pods b1 b2))) (fun k => ?_) (Ev.bind (hM _) (by rw [hc]; exact Ev.congr (fun k => if_pos rfl) hr))
      simp only [victim_Choose.l0]
      rw [if_pos (by omega), if_pos (by omega), Int.toNat_natCast, if_neg (show ¬ (n : Int) = (vs.length : Int) by omega), hw]
      have hcl : slices_Clone_int_int.f (vs.take n) = some (vs.take n) := by unfold slices_Clone_int_int.f; rw [if_pos (by omega)]
      rw [hcl]; rfl
    | false =>
      have hw : wrap64 ((n : Int) + 1) = ((n + 1 : Nat) : Int) := by unfold wrap64; omega
      have step : ∀ r, Ev (fun k => victim_Choose.l0 k pod node vs ((n + 1 : Nat) : Int) nodes l1 l2 wants a1 a2 pods b1 b2) r → Ev (fun k => victim_Choose.l0 k pod node vs (n : Int) nodes l1 l2 wants a1 a2 pods b1 b2) r := by
        intro r hr
        refine Ev.step (f := fun k => (victim_Makes.f k nodes l1 l2 wants a1 a2 pods b1 b2 pod node (vs.take n)).bind fun t133 => (if t133 = true then ((slices_Clone_int_int.f (vs.take n)).bind fun t138 => (victim_Choose.l1 k pod node t138 (wrap64 ((n : Int) - 1)) nodes l1 l2 wants a1 a2 pods b1 b2)) else (victim_Choose.l0 k pod node vs ((n + 1 : Nat) : Int) nodes l1 l2 wants a1 a2 pods b1 b2))) (fun k => ?_) (Ev.bind (hM _) (by rw [hc]; exact Ev.congr (fun k => if_neg (by simp)) hr))
        simp only [victim_Choose.l0]
        rw [if_pos (by omega), if_pos (by omega), Int.toNat_natCast, if_neg (show ¬ (n : Int) = (vs.length : Int) by omega), hw]
      rcases ih (n + 1) (by omega) with h | ⟨r, h, h2⟩
      · exact Or.inl (step _ h)
      · exact Or.inr ⟨r, step _ h, h2⟩
end
theorem choose_ev (nodes : List S150) (l1 : List S260) (l2 : List S70) (wants : List S185) (a1 a2 : Int) (pods : List S70) (b1 b2 pod node : Int) (hn : ∀ n ∈ nodes, uv n.f2 ∧ uv n.f3) (h : ∀ q ∈ pods, uv q.f3) (hw : ∀ x ∈ wants, uv x.f1) (hl : nodes.length ≤ 40) (hl2 : pods.length ≤ 40) (hl3 : wants.length ≤ 40) :
    ∃ M : List Int → Bool, (∀ L, Ev (fun k => victim_Makes.f k nodes l1 l2 wants a1 a2 pods b1 b2 pod node L) (M L)) ∧
      ((∃ c, Ev (fun k => victim_Choose.f k nodes l1 l2 wants a1 a2 pods b1 b2 pod node) ([], some c)) ∨
       ∃ r, Ev (fun k => victim_Choose.f k nodes l1 l2 wants a1 a2 pods b1 b2 pod node) (r, none) ∧ Least M r ∧ r.length ≤ 1000 ∧ (r = [] ∨ ∃ x, fnd pods pod = some x ∧ ∀ v ∈ r, v ∈ vics pods node x.f2)) := by
  obtain ⟨M, hM, hm⟩ := makes_ev nodes l1 l2 wants a1 a2 pods b1 b2 pod node hn h hw hl hl2 hl3
  refine ⟨M, hM, ?_⟩
  have hno := node_ev nodes l1 l2 node (by omega)
  have bad : Ev (fun k => victim_Choose.j0 k pod node true nodes l1 l2 wants a1 a2 pods b1 b2) ([], some 4) := by
    refine Ev.step (f := fun _ => some ([], some 4)) (fun k => ?_) (Ev.now _)
    simp only [victim_Choose.j0, if_true]
  have top : ∀ r, Ev (fun k => if (podT (fnd pods pod)).2.2.2.2.2.2.2.2 = true then (victim_Choose.j0 k pod node (!(nodT (fndN nodes node)).2.2.2.2.2.2.2.2.2.2) nodes l1 l2 wants a1 a2 pods b1 b2) else (victim_Choose.j0 k pod node true nodes l1 l2 wants a1 a2 pods b1 b2)) r → Ev (fun k => victim_Choose.f k nodes l1 l2 wants a1 a2 pods b1 b2 pod node) r := by
    intro r hr
    unfold victim_Choose.f
    rw [statePod_eq]
    exact Ev.bind (Ev.now _) (Ev.bind hno hr)
  cases hf : fnd pods pod with
  | none =>
    exact Or.inl ⟨4, top _ (by rw [hf]; exact Ev.congr (fun k => if_neg (by simp [podT])) bad)⟩
  | some x =>
    cases hg : fndN nodes node with
    | none => exact Or.inl ⟨4, top _ (by rw [hf, hg]; exact Ev.congr (fun k => if_pos (by simp [podT])) bad)⟩
    | some n =>
      obtain ⟨vs, hvs, hc⟩ := vf_any pods b1 b2 pod node (by omega)
      have hvl : vs.length ≤ 40 := by
        rcases hc with rfl | ⟨y, _, rfl⟩
        · simp
        · have := vics_len pods node y.f2; omega
      have go : ∀ r, Ev (fun k => victim_Choose.l0 k pod node vs ((0 : Nat) : Int) nodes l1 l2 wants a1 a2 pods b1 b2) r → Ev (fun k => victim_Choose.f k nodes l1 l2 wants a1 a2 pods b1 b2 pod node) r := by
        intro r hr
        refine top _ ?_
        rw [hf, hg]
        refine Ev.congr (f := fun k => victim_Choose.j0 k pod node false nodes l1 l2 wants a1 a2 pods b1 b2) (fun k => if_pos (by simp [podT])) ?_
        refine Ev.step (f := fun k => victim_Choose.l0 k pod node vs ((0 : Nat) : Int) nodes l1 l2 wants a1 a2 pods b1 b2) (fun k => ?_) hr
        simp only [victim_Choose.j0]
        rw [if_neg (by simp), hvs]; rfl
      rcases choose_l0 nodes l1 l2 wants a1 a2 pods b1 b2 pod node M hM hm vs (by omega) vs.length 0 (by omega) with hh | ⟨r, hr, hL, hrl, hrs⟩
      · exact Or.inl ⟨9, go _ hh⟩
      · refine Or.inr ⟨r, go _ hr, hL, hrl, ?_⟩
        rcases hc with rfl | ⟨y, hy, rfl⟩
        · exact Or.inl (List.eq_nil_iff_forall_not_mem.2 (fun v hv => absurd (hrs v hv) (by simp)))
        · rw [hf] at hy
          exact Or.inr ⟨x, rfl, by obtain rfl := Option.some.inj hy; exact hrs⟩
section
variable (nodes : List S150) (l1 : List S260) (l2 : List S70) (wants : List S185) (a1 a2 : Int) (pods : List S70) (b1 b2 pod node : Int) (M : List Int → Bool)
theorem vl_l1 (hM : ∀ L, Ev (fun k => victim_Makes.f k nodes l1 l2 wants a1 a2 pods b1 b2 pod node L) (M L)) (r : List Int) (hr : r.length ≤ 1000) (hL : Least M r) (hmay : ∀ v ∈ r, mayB pods pod v = true) : ∀ (m i : Nat), i + m = r.length →
    Ev (fun k => dunnagelaw15_VictimLeast.l1 k pod node true r (i : Int) nodes l1 l2 wants a1 a2 pods b1 b2) true
  | 0, i, hi => by
    refine Ev.step (f := fun _ => some true) (fun k => ?_) (Ev.now _)
    simp only [dunnagelaw15_VictimLeast.l1]
    rw [if_neg (by omega)]
  | m + 1, i, hi => by
    have hlt : i < r.length := by omega
    have hw : wrap64 ((i : Int) + 1) = ((i + 1 : Nat) : Int) := by unfold wrap64; omega
    have hc := hL.2 i hlt
    refine Ev.step (f := fun k => (victim_Makes.f k nodes l1 l2 wants a1 a2 pods b1 b2 pod node (r.take i ++ r.drop (i + 1))).bind fun t131 => (if t131 = true then (some false) else (dunnagelaw15_VictimLeast.l1 k pod node true r ((i + 1 : Nat) : Int) nodes l1 l2 wants a1 a2 pods b1 b2))) (fun k => ?_) (Ev.bind (hM _) ?_)
    · simp only [dunnagelaw15_VictimLeast.l1]
      rw [if_pos (by omega), Option.bind_some, if_pos (by omega), if_pos (by omega), Option.bind_some, if_pos (by simp; omega), Option.bind_some, hw, if_pos (by omega), if_pos (by omega), Option.bind_some, if_pos (by simp; omega), may_eq, Int.toNat_natCast, Int.toNat_natCast]
      have : rd r (i : Int) = r[i] := by unfold rd; rw [List.getD_eq_getElem?_getD, Int.toNat_natCast, List.getElem?_eq_getElem hlt]; rfl
      rw [this, hmay r[i] (List.getElem_mem hlt)]
      rfl
    · rw [hc]
      exact Ev.congr (fun k => if_neg (by simp)) (vl_l1 hM r hr hL hmay m (i + 1) (by omega))
end
theorem few_eq (nodes : List S150) (l1 : List S260) (l2 : List S70) (wants : List S185) (a1 a2 : Int) (pods : List S70) (b1 b2 : Int) : ∃ b, dunnageref05_Few.f nodes l1 l2 wants a1 a2 pods b1 b2 = some b ∧ (b = true → nodes.length ≤ 40 ∧ wants.length ≤ 40 ∧ pods.length ≤ 40) := by
  unfold dunnageref05_Few.f dunnageref03_Few.f
  by_cases h1 : (nodes.length : Int) ≤ 40 <;> by_cases h2 : (l1.length : Int) ≤ 40 <;> by_cases h3 : (wants.length : Int) ≤ 40 <;> by_cases h4 : (l2.length : Int) ≤ 40 <;> by_cases h5 : (pods.length : Int) ≤ 40 <;> simp [h1, h2, h3, h4, h5] <;> omega
theorem vl_l0 (nodes : List S150) (l1 : List S260) (l2 : List S70) (wants : List S185) (a1 a2 : Int) (pods : List S70) (b1 b2 pod node : Int) (hn : ∀ n ∈ nodes, uv n.f2 ∧ uv n.f3) (h : ∀ q ∈ pods, uv q.f3) (hw : ∀ x ∈ wants, uv x.f1) (few : Bool) (hf : few = true → nodes.length ≤ 40 ∧ wants.length ≤ 40 ∧ pods.length ≤ 40) (hl : pods.length ≤ 9223372036854775807) :
    ∀ (m i : Nat), 1 ≤ i → (i + m = pods.length ∨ m = 0 ∧ pods.length ≤ i) → (∀ j (h : j < pods.length), 1 ≤ j → j < i → pods[j - 1].f0 < pods[j].f0) → Ev (fun k => dunnagelaw15_VictimLeast.l0 k pod node true few (i : Int) nodes l1 l2 wants a1 a2 pods b1 b2) true
  | 0, i, h1, h2, hs => by
    cases hfew : few with
    | false =>
      refine Ev.step (f := fun _ => some true) (fun k => ?_) (Ev.now _)
      simp only [dunnagelaw15_VictimLeast.l0]
      rw [if_neg (by omega), if_neg (by simp)]
    | true =>
      obtain ⟨f1, f2, f3⟩ := hf hfew
      have hr : Rises pods := by
        have step : ∀ (d u : Nat) (h : u + d + 1 < pods.length), pods[u].f0 < pods[u + d + 1].f0 := by
          intro d
          induction d with
          | zero => intro u h; have := hs (u + 1) h (by omega) (by omega); simpa using this
          | succ d ih => intro u h
                         have h3 := ih u (by omega)
                         have h4 := hs (u + d + 2) (by omega) (by omega) (by omega)
                         simp only [show u + d + 2 - 1 = u + d + 1 by omega] at h4
                         exact Int.lt_trans h3 h4
        refine List.pairwise_iff_getElem.2 fun u v hu hv huv => ?_
        obtain ⟨d, rfl⟩ : ∃ d, v = u + d + 1 := ⟨v - u - 1, by omega⟩
        exact step d u hv
      obtain ⟨M, hM, hc⟩ := choose_ev nodes l1 l2 wants a1 a2 pods b1 b2 pod node hn h hw f1 f3 f2
      have top : ∀ r : List Int × Option Int, Ev (fun k => victim_Choose.f k nodes l1 l2 wants a1 a2 pods b1 b2 pod node) r → Ev (fun k => (if r.2.isNone = true then ((victim_Makes.f k nodes l1 l2 wants a1 a2 pods b1 b2 pod node r.1).bind fun t113 => (if t113 = true then (dunnagelaw15_VictimLeast.l1 k pod node true r.1 0 nodes l1 l2 wants a1 a2 pods b1 b2) else (some false))) else (some ((r.1.length : Int) == 0)))) true → Ev (fun k => dunnagelaw15_VictimLeast.l0 k pod node true true (i : Int) nodes l1 l2 wants a1 a2 pods b1 b2) true := by
        intro r hr1 hr2
        refine Ev.step (f := fun k => (victim_Choose.f k nodes l1 l2 wants a1 a2 pods b1 b2 pod node).bind fun r => (if r.2.isNone = true then ((victim_Makes.f k nodes l1 l2 wants a1 a2 pods b1 b2 pod node r.1).bind fun t113 => (if t113 = true then (dunnagelaw15_VictimLeast.l1 k pod node true r.1 0 nodes l1 l2 wants a1 a2 pods b1 b2) else (some false))) else (some ((r.1.length : Int) == 0)))) (fun k => ?_) (Ev.bind hr1 hr2)
        simp only [dunnagelaw15_VictimLeast.l0]
        rw [if_neg (by omega), if_pos trivial]
        rfl
      rcases hc with ⟨c, hc⟩ | ⟨r, hc, hL, hrl, hrs⟩
      · refine top _ hc (Ev.congr (f := fun _ => some true) (fun k => ?_) (Ev.now _))
        rfl
      · refine top _ hc ?_
        refine Ev.congr (f := fun k => (victim_Makes.f k nodes l1 l2 wants a1 a2 pods b1 b2 pod node r).bind fun t113 => (if t113 = true then (dunnagelaw15_VictimLeast.l1 k pod node true r 0 nodes l1 l2 wants a1 a2 pods b1 b2) else (some false))) (fun k => rfl) (Ev.bind (hM r) ?_)
        rw [hL.1]
        refine Ev.congr (fun k => if_pos rfl) ?_
        refine vl_l1 nodes l1 l2 wants a1 a2 pods b1 b2 pod node M hM r hrl hL (fun v hv => ?_) r.length 0 (by omega)
        rcases hrs with rfl | ⟨x, hx, hrs⟩
        · cases hv
        · obtain ⟨q, hq, h3, h4, h5⟩ := vics_mem (hrs v hv)
          obtain ⟨_, _, _, _, h6⟩ := rises_fnd hr hq
          unfold mayB
          rw [hx, ← h3, h6]
          simpa using h5
  | m + 1, i, h1, h2, hs => by
    have hlt : i < pods.length := by omega
    have hw1 : wrap64 ((i : Int) + 1) = ((i + 1 : Nat) : Int) := by unfold wrap64; omega
    have hw2 : wrap64 ((i : Int) - 1) = ((i - 1 : Nat) : Int) := by unfold wrap64; omega
    by_cases hx : pods[i].f0 ≤ pods[i - 1].f0
    · refine Ev.step (f := fun _ => some true) (fun k => ?_) (Ev.now _)
      simp only [dunnagelaw15_VictimLeast.l0]
      rw [if_pos (by omega), if_pos (by omega), hw2, if_pos (by omega), if_pos (by omega), rd70_nat pods i hlt, rd70_nat pods (i - 1) (by omega), if_pos hx]
    · refine Ev.step (f := fun k => dunnagelaw15_VictimLeast.l0 k pod node true few ((i + 1 : Nat) : Int) nodes l1 l2 wants a1 a2 pods b1 b2) (fun k => ?_) (vl_l0 nodes l1 l2 wants a1 a2 pods b1 b2 pod node hn h hw few hf hl m (i + 1) (by omega) (by omega) (fun j h h3 h4 => ?_))
      · simp only [dunnagelaw15_VictimLeast.l0]
        rw [if_pos (by omega), if_pos (by omega), hw2, if_pos (by omega), if_pos (by omega), rd70_nat pods i hlt, rd70_nat pods (i - 1) (by omega), if_neg hx, hw1]
      · by_cases hj : j = i
        · subst hj; omega
        · exact hs j h h3 (by omega)
def exN : List S150 := [(⟨3, 1, (⟨5, 0, 0, 0⟩ : S33), (⟨0, 0, 0, 0⟩ : S33)⟩ : S150)]
def exP : List S70 := [(⟨1, 0, 1, (⟨4, 0, 0, 0⟩ : S33), 3⟩ : S70), (⟨2, 0, 2, (⟨3, 0, 0, 0⟩ : S33), 0⟩ : S70), (⟨4, 0, 1, (⟨1, 0, 0, 0⟩ : S33), 0⟩ : S70)]
theorem ex_vic1 : prior_Victims.f exP 0 0 2 3 = some [1] := by
  unfold prior_Victims.f vicF
  rw [statePod_eq, Option.bind_some]
  show (if true = true then (if (3 : Int) = 0 then some [] else if 3 < 1000000000000 then some ((stableP #[(⟨1, 0, 1, (⟨4, 0, 0, 0⟩ : S33), 3⟩ : S70)]).toList.map fun q => q.f0) else none) else some []) = some [1]
  rw [stable_small _ (by simp)]
  rfl
theorem ex_vic2 : prior_Victims.f exP 0 0 4 3 = some [] := by
  unfold prior_Victims.f vicF
  rw [statePod_eq, Option.bind_some]
  show (if true = true then (if (3 : Int) = 0 then some [] else if 3 < 1000000000000 then some ((stableP #[]).toList.map fun q => q.f0) else none) else some []) = some []
  rw [stable_small _ (by simp)]
  rfl
theorem ex_choose1 : victim_Choose.f 30 exN [] [] [] 0 0 exP 0 0 2 3 = some ([1], none) := by
  have e : victim_Choose.f 30 exN [] [] [] 0 0 exP 0 0 2 3 = victim_Choose.j0 30 2 3 false exN [] [] [] 0 0 exP 0 0 := by rfl
  rw [e, victim_Choose.j0, if_neg (by simp), ex_vic1, Option.bind_some]
  decide +kernel
theorem ex_choose2 : victim_Choose.f 30 exN [] [] [] 0 0 exP 0 0 4 3 = some ([], none) := by
  have e : victim_Choose.f 30 exN [] [] [] 0 0 exP 0 0 4 3 = victim_Choose.j0 30 4 3 false exN [] [] [] 0 0 exP 0 0 := by rfl
  rw [e, victim_Choose.j0, if_neg (by simp), ex_vic2, Option.bind_some]
  decide +kernel
theorem ex_choose3 : victim_Choose.f 30 exN [] [] [] 0 0 exP 0 0 9 3 = some ([], some 4) := by
  have e : victim_Choose.f 30 exN [] [] [] 0 0 exP 0 0 9 3 = victim_Choose.j0 30 9 3 true exN [] [] [] 0 0 exP 0 0 := by rfl
  rw [e, victim_Choose.j0, if_pos rfl]
theorem law15_up_ev : Ev (fun k => dunnagelaw15_up.f k) true := by
  refine Ev.of dunnagelaw15_up.mono (k := 30) ?_
  unfold dunnagelaw15_up.f
  rw [Option.bind_some, Option.bind_some]
  show (victim_Choose.f 30 exN [] [] [] 0 0 exP 0 0 2 3).bind _ = _
  rw [ex_choose1, Option.bind_some]
  show (victim_Choose.f 30 exN [] [] [] 0 0 exP 0 0 4 3).bind _ = _
  rw [ex_choose2, Option.bind_some]
  show (victim_Choose.f 30 exN [] [] [] 0 0 exP 0 0 9 3).bind _ = _
  rw [ex_choose3, Option.bind_some]
  rfl
theorem pureVictimLeast : dunnagelaw15_VictimLeast.Pure := by
  intro s x t pod node hs hx ht _ _
  obtain ⟨⟨_, hs0⟩, _, _⟩ := hs
  obtain ⟨⟨_, hx0⟩, _, _⟩ := hx
  obtain ⟨⟨htl, ht0⟩, _, _⟩ := ht
  obtain ⟨few, hfew, hf⟩ := few_eq s.f0 s.f1 s.f2 x.f0 x.f1 x.f2 t.f0 t.f1 t.f2
  have h := vl_l0 s.f0 s.f1 s.f2 x.f0 x.f1 x.f2 t.f0 t.f1 t.f2 pod node (fun n hn => ⟨uvO (hs0 n hn).2.2.1, uvO (hs0 n hn).2.2.2⟩) (fun q hq => uvO (ht0 q hq).2.2.2.1) (fun y hy => uvO (hx0 y hy).2.1) few hf (by unfold maxLen at htl; omega) (t.f0.length - 1) 1 (by omega) (by omega) (fun j h h1 h2 => by omega)
  have hall : Ev (fun k => dunnagelaw15_VictimLeast.f k s.f0 s.f1 s.f2 x.f0 x.f1 x.f2 t.f0 t.f1 t.f2 pod node) true := by
    unfold dunnagelaw15_VictimLeast.f
    refine Ev.bind law15_up_ev ?_
    rw [hfew]
    exact h
  exact hall.rounds
end Go.Proofs.Ytppfkbigeknedaa.Q
