/- Room, in plain numbers: sums, what is used, what is left. -/
import Derived.Test.YtppfkbigeknedaaUOpen
import Derived.Test.YtppfkbigeknedaaUQroomRest
namespace Go.Proofs.Ytppfkbigeknedaa.Q
open Go.RowKit Go.Proofs.YtppfkbigeknedaaW.PrintWords
set_option linter.unusedVariables false
set_option linter.unusedSimpArgs false
def u64N (x : Int) : Prop := 0 ≤ x ∧ x < 18446744073709551616
def uv (x : S33) : Prop := u64N x.f0 ∧ u64N x.f1 ∧ u64N x.f2 ∧ u64N x.f3
def vadd (a b : S33) : S33 := ⟨a.f0 + b.f0, a.f1 + b.f1, a.f2 + b.f2, a.f3 + b.f3⟩
def vsub (a b : S33) : S33 := ⟨a.f0 - b.f0, a.f1 - b.f1, a.f2 - b.f2, a.f3 - b.f3⟩
def vle (a b : S33) : Prop := a.f0 ≤ b.f0 ∧ a.f1 ≤ b.f1 ∧ a.f2 ≤ b.f2 ∧ a.f3 ≤ b.f3
instance (a b : S33) : Decidable (vle a b) := by unfold vle; infer_instance
def vmx : S33 := ⟨18446744073709551615, 18446744073709551615, 18446744073709551615, 18446744073709551615⟩
def vsum : List S33 → S33
  | [] => z33
  | x :: l => vadd x (vsum l)
def okT (v : S33) : Int × Int × Int × Int × Option Int := (v.f0, v.f1, v.f2, v.f3, none)
def errT (c : Int) : Int × Int × Int × Int × Option Int := (0, 0, 0, 0, some c)
def sumT (v : S33) : Int × Int × Int × Int × Option Int := if vle v vmx then okT v else errT 8
theorem uvO {x : S33} (h : ok33 x) : uv x := by
  obtain ⟨h0, h1, h2, h3⟩ := h
  have k : ∀ {n : Int}, okI .u64 n → u64N n := fun h => by have := Go.bounds_u64 h; unfold u64N; omega
  exact ⟨k h0, k h1, k h2, k h3⟩
theorem add4 (a b : S33) (ha : uv a) (hb : uv b) : vec_Add.f a.f0 a.f1 a.f2 a.f3 b.f0 b.f1 b.f2 b.f3 = some (sumT (vadd a b)) := by
  obtain ⟨a0, a1, a2, a3⟩ := ha
  obtain ⟨b0, b1, b2, b3⟩ := hb
  unfold vec_Add.f
  rw [if_pos (by simp only [Bool.and_eq_true]; exact ⟨⟨⟨⟨⟨⟨⟨isU64_iff.2 a0, isU64_iff.2 a1⟩, isU64_iff.2 a2⟩, isU64_iff.2 a3⟩, isU64_iff.2 b0⟩, isU64_iff.2 b1⟩, isU64_iff.2 b2⟩, isU64_iff.2 b3⟩)]
  unfold u64N at *
  have hv : vle (vadd a b) vmx ↔ (a.f0 + b.f0 < 18446744073709551616 ∧ a.f1 + b.f1 < 18446744073709551616 ∧ a.f2 + b.f2 < 18446744073709551616 ∧ a.f3 + b.f3 < 18446744073709551616) := by
    unfold vle vadd vmx; simp only; omega
  unfold sumT each4 addF
  simp only [decide_eq_true_eq]
  by_cases hc : a.f0 + b.f0 < 18446744073709551616 ∧ a.f1 + b.f1 < 18446744073709551616 ∧ a.f2 + b.f2 < 18446744073709551616 ∧ a.f3 + b.f3 < 18446744073709551616
  · obtain ⟨k0, k1, k2, k3⟩ := hc
    rw [if_pos k0, if_pos k1, if_pos k2, if_pos k3, if_pos (hv.2 ⟨k0, k1, k2, k3⟩)]
    unfold okT vadd
    simp only [Option.some.injEq, Prod.mk.injEq, and_true]
    refine ⟨?_, ?_, ?_, ?_⟩ <;> omega
  · rw [if_neg (fun h => hc (hv.1 h))]
    unfold errT
    by_cases k0 : a.f0 + b.f0 < 18446744073709551616 <;> by_cases k1 : a.f1 + b.f1 < 18446744073709551616 <;> by_cases k2 : a.f2 + b.f2 < 18446744073709551616 <;> by_cases k3 : a.f3 + b.f3 < 18446744073709551616 <;> first | omega | simp [k0, k1, k2, k3]
theorem sub4 (a b : S33) (ha : uv a) (hb : uv b) : vec_Sub.f a.f0 a.f1 a.f2 a.f3 b.f0 b.f1 b.f2 b.f3 = some (if vle b a then okT (vsub a b) else errT 8) := by
  obtain ⟨a0, a1, a2, a3⟩ := ha
  obtain ⟨b0, b1, b2, b3⟩ := hb
  unfold u64N at *
  have hv : vle b a ↔ (b.f0 ≤ a.f0 ∧ b.f1 ≤ a.f1 ∧ b.f2 ≤ a.f2 ∧ b.f3 ≤ a.f3) := Iff.rfl
  unfold vec_Sub.f each4 subF
  simp only [decide_eq_true_eq]
  by_cases hc : b.f0 ≤ a.f0 ∧ b.f1 ≤ a.f1 ∧ b.f2 ≤ a.f2 ∧ b.f3 ≤ a.f3
  · obtain ⟨k0, k1, k2, k3⟩ := hc
    rw [if_pos k0, if_pos k1, if_pos k2, if_pos k3, if_pos (hv.2 ⟨k0, k1, k2, k3⟩)]
    unfold okT vsub
    simp only [Option.some.injEq, Prod.mk.injEq, and_true]
    refine ⟨?_, ?_, ?_, ?_⟩ <;> omega
  · rw [if_neg (fun h => hc (hv.1 h))]
    unfold errT
    by_cases k0 : b.f0 ≤ a.f0 <;> by_cases k1 : b.f1 ≤ a.f1 <;> by_cases k2 : b.f2 ≤ a.f2 <;> by_cases k3 : b.f3 ≤ a.f3 <;> first | omega | simp [k0, k1, k2, k3]
theorem sub_uv {a b : S33} (ha : uv a) (hb : uv b) (h : vle b a) : uv (vsub a b) := by
  obtain ⟨a0, a1, a2, a3⟩ := ha; obtain ⟨b0, b1, b2, b3⟩ := hb; obtain ⟨h0, h1, h2, h3⟩ := h
  unfold uv u64N vsub at *
  refine ⟨⟨?_, ?_⟩, ⟨?_, ?_⟩, ⟨?_, ?_⟩, ⟨?_, ?_⟩⟩ <;> simp only <;> omega
def nn (a : S33) : Prop := 0 ≤ a.f0 ∧ 0 ≤ a.f1 ∧ 0 ≤ a.f2 ∧ 0 ≤ a.f3
theorem uv.nn {a : S33} (h : uv a) : nn a := ⟨h.1.1, h.2.1.1, h.2.2.1.1, h.2.2.2.1⟩
theorem vsum_nn : ∀ (l : List S33), (∀ x ∈ l, uv x) → nn (vsum l)
  | [], _ => ⟨Int.le_refl _, Int.le_refl _, Int.le_refl _, Int.le_refl _⟩
  | x :: l, h => by
    have h1 := (h x (by simp)).nn
    have h2 := vsum_nn l (fun y hy => h y (by simp [hy]))
    obtain ⟨a0, a1, a2, a3⟩ := h1; obtain ⟨b0, b1, b2, b3⟩ := h2
    unfold nn vsum vadd
    exact ⟨by show 0 ≤ x.f0 + _; omega, by show 0 ≤ x.f1 + _; omega, by show 0 ≤ x.f2 + _; omega, by show 0 ≤ x.f3 + _; omega⟩
theorem uv_of {a : S33} (h : nn a) (h2 : vle a vmx) : uv a := by
  obtain ⟨a0, a1, a2, a3⟩ := h; obtain ⟨b0, b1, b2, b3⟩ := h2
  unfold vmx at *
  simp only at b0 b1 b2 b3
  unfold uv u64N
  exact ⟨⟨a0, by omega⟩, ⟨a1, by omega⟩, ⟨a2, by omega⟩, ⟨a3, by omega⟩⟩
theorem rd33_nat (l : List S33) (k : Nat) (h : k < l.length) : rd_T33 l (k : Int) = l[k] := by
  unfold rd_T33; rw [List.getD_eq_getElem?_getD, Int.toNat_natCast, List.getElem?_eq_getElem h]; rfl
theorem vadd_assoc (a b c : S33) : vadd (vadd a b) c = vadd a (vadd b c) := by unfold vadd; simp only [Int.add_assoc]
theorem vadd_zero (a : S33) : vadd a z33 = a := by unfold vadd z33; simp
theorem zero_vadd (a : S33) : vadd z33 a = a := by unfold vadd z33; simp
theorem vecSum0 (l : List S33) (h : ∀ x ∈ l, uv x) (hl : l.length ≤ 1000000000) : ∀ (m i : Nat) (v : S33), i + m = l.length → uv v → Ev (fun k => vec_Sum.l0 k l (l.length : Int) (i : Int) v.f0 v.f1 v.f2 v.f3) (sumT (vadd v (vsum (l.drop i))))
  | 0, i, v, hi, hv => by
    refine Ev.step (f := fun _ => some (okT v)) (fun k => ?_) ?_
    · simp only [vec_Sum.l0]
      rw [if_neg (by omega)]; rfl
    · rw [List.drop_of_length_le (by omega)]
      show Ev _ (sumT (vadd v z33))
      rw [vadd_zero]
      have : vle v vmx := by obtain ⟨a0, a1, a2, a3⟩ := hv; unfold u64N at *; unfold vle vmx; simp only; omega
      unfold sumT; rw [if_pos this]; exact Ev.now _
  | m + 1, i, v, hi, hv => by
    have hlt : i < l.length := by omega
    have hw : wrap64 ((i : Int) + 1) = ((i + 1 : Nat) : Int) := by unfold wrap64; omega
    have hx := h l[i] (List.getElem_mem hlt)
    have hd : l.drop i = l[i] :: l.drop (i + 1) := List.drop_eq_getElem_cons hlt
    have hn := vsum_nn (l.drop (i + 1)) (fun x hx => h x (List.mem_of_mem_drop hx))
    rw [hd]
    show Ev _ (sumT (vadd v (vadd l[i] (vsum (l.drop (i + 1))))))
    rw [← vadd_assoc]
    by_cases hc : vle (vadd v l[i]) vmx
    · have hu : uv (vadd v l[i]) := uv_of (by obtain ⟨a0, a1, a2, a3⟩ := hv.nn; obtain ⟨b0, b1, b2, b3⟩ := hx.nn; unfold vadd; exact ⟨by show 0 ≤ v.f0 + _; omega, by show 0 ≤ v.f1 + _; omega, by show 0 ≤ v.f2 + _; omega, by show 0 ≤ v.f3 + _; omega⟩) hc
      refine Ev.step (f := fun k => vec_Sum.l0 k l (l.length : Int) ((i + 1 : Nat) : Int) (vadd v l[i]).f0 (vadd v l[i]).f1 (vadd v l[i]).f2 (vadd v l[i]).f3) (fun k => ?_) (vecSum0 l h hl m (i + 1) _ (by omega) hu)
      simp only [vec_Sum.l0]
      rw [if_pos (by omega), if_pos (by omega), if_pos (by omega), rd33_nat l i hlt, add4 _ _ hv hx, Option.bind_some]
      unfold sumT
      rw [if_pos hc, hw]
      rfl
    · refine Ev.step (f := fun k => some (errT 8)) (fun k => ?_) ?_
      · simp only [vec_Sum.l0]
        rw [if_pos (by omega), if_pos (by omega), if_pos (by omega), rd33_nat l i hlt, add4 _ _ hv hx, Option.bind_some]
        unfold sumT
        rw [if_neg hc]
        rfl
      · have : ¬ vle (vadd (vadd v l[i]) (vsum (l.drop (i + 1)))) vmx := by
          intro hh
          apply hc
          obtain ⟨a0, a1, a2, a3⟩ := hh; obtain ⟨b0, b1, b2, b3⟩ := hn
          generalize vsum (l.drop (i + 1)) = s at *
          generalize vadd v l[i] = t at *
          unfold vadd at a0 a1 a2 a3
          simp only at a0 a1 a2 a3
          exact ⟨by omega, by omega, by omega, by omega⟩
        unfold sumT; rw [if_neg this]; exact Ev.now _
theorem z_uv : uv z33 := ⟨⟨by decide, by decide⟩, ⟨by decide, by decide⟩, ⟨by decide, by decide⟩, ⟨by decide, by decide⟩⟩
theorem vecSum_ev (l : List S33) (h : ∀ x ∈ l, uv x) (hl : l.length ≤ 1000000000) : Ev (fun k => vec_Sum.f k l) (sumT (vsum l)) := by
  have := vecSum0 l h hl l.length 0 z33 (by omega) z_uv
  rw [zero_vadd] at this
  exact this
def useV (pods : List S70) (node : Int) : S33 := vsum ((pods.filter fun q => q.f4 == node).map fun q => q.f3)
theorem rd70_nat' (l : List S70) (k : Nat) (h : k < l.length) : rd_T70 l (k : Int) = l[k] := by
  unfold rd_T70; rw [List.getD_eq_getElem?_getD, Int.toNat_natCast, List.getElem?_eq_getElem h]; rfl
theorem use0 (pods : List S70) (node : Int) (h : ∀ q ∈ pods, uv q.f3) (hl : pods.length ≤ 1000000000) (F : List S33) (hF : ∀ x ∈ F, uv x) (hFl : F.length ≤ 1000000000) : ∀ (m i : Nat) (acc : List S33), i + m = pods.length → acc ++ ((pods.drop i).filter fun q => q.f4 == node).map (fun q => q.f3) = F → Ev (fun k => room_Use.l0 k node acc pods (pods.length : Int) (i : Int)) (sumT (vsum F))
  | 0, i, acc, hi, hA => by
    rw [List.drop_of_length_le (by omega)] at hA
    simp at hA
    subst hA
    refine Ev.step (f := fun k => (vec_Sum.f k acc).bind fun bt108 => (some (bt108.1, bt108.2.1, bt108.2.2.1, bt108.2.2.2.1, bt108.2.2.2.2))) (fun k => ?_) (Ev.bind (vecSum_ev acc hF hFl) (Ev.now _))
    simp only [room_Use.l0]
    rw [if_neg (by omega)]
  | m + 1, i, acc, hi, hA => by
    have hlt : i < pods.length := by omega
    have hw : wrap64 ((i : Int) + 1) = ((i + 1 : Nat) : Int) := by unfold wrap64; omega
    have hd : pods.drop i = pods[i] :: pods.drop (i + 1) := List.drop_eq_getElem_cons hlt
    rw [hd] at hA
    by_cases hn : pods[i].f4 = node
    · rw [List.filter_cons, if_pos (by simpa using hn), List.map_cons] at hA
      have hal : acc.length < 4398046511104 := by
        have : acc.length ≤ F.length := by rw [← hA]; simp
        omega
      refine Ev.step (f := fun k => room_Use.l0 k node (acc ++ [pods[i].f3]) pods (pods.length : Int) ((i + 1 : Nat) : Int)) (fun k => ?_) (use0 pods node h hl F hF hFl m (i + 1) (acc ++ [pods[i].f3]) (by omega) (by rw [List.append_assoc]; exact hA))
      simp only [room_Use.l0]
      rw [if_pos (by omega), if_pos (by omega), if_pos (by omega), rd70_nat' pods i hlt, if_pos hn, if_pos hal, hw]
    · rw [List.filter_cons, if_neg (by simpa using hn)] at hA
      refine Ev.step (f := fun k => room_Use.l0 k node acc pods (pods.length : Int) ((i + 1 : Nat) : Int)) (fun k => ?_) (use0 pods node h hl F hF hFl m (i + 1) _ (by omega) hA)
      simp only [room_Use.l0]
      rw [if_pos (by omega), if_pos (by omega), if_pos (by omega), rd70_nat' pods i hlt, if_neg hn, hw]
theorem use_uv {pods : List S70} (h : ∀ q ∈ pods, uv q.f3) (p : S70 → Bool) : ∀ x ∈ (pods.filter p).map (fun q => q.f3), uv x := by
  intro x hx
  obtain ⟨q, hq, rfl⟩ := List.mem_map.1 hx
  exact h q (List.mem_filter.1 hq).1
theorem use_ev (pods : List S70) (a b node : Int) (h : ∀ q ∈ pods, uv q.f3) (hl : pods.length ≤ 1000000000) : Ev (fun k => room_Use.f k pods a b node) (sumT (useV pods node)) :=
  use0 pods node h hl _ (use_uv h _) (by rw [List.length_map]; exact Nat.le_trans (List.length_filter_le _ _) hl) pods.length 0 [] (by omega) rfl
def fndN (l : List S150) (id : Int) : Option S150 := l.find? fun x => x.f0 == id
def nodT : Option S150 → Int × Int × Int × Int × Int × Int × Int × Int × Int × Int × Bool
  | none => (0, 0, 0, 0, 0, 0, 0, 0, 0, 0, false)
  | some x => (x.f0, x.f1, x.f2.f0, x.f2.f1, x.f2.f2, x.f2.f3, x.f3.f0, x.f3.f1, x.f3.f2, x.f3.f3, true)
theorem rd150_nat (l : List S150) (k : Nat) (h : k < l.length) : rd_T150 l (k : Int) = l[k] := by
  unfold rd_T150; rw [List.getD_eq_getElem?_getD, Int.toNat_natCast, List.getElem?_eq_getElem h]; rfl
theorem node0 (l : List S150) (id : Int) (hl : l.length ≤ 1000000000) : ∀ (m i : Nat), i + m = l.length → Ev (fun k => cluster_Node.l0 k id l (l.length : Int) (i : Int)) (nodT (fndN (l.drop i) id))
  | 0, i, hi => by
    refine Ev.step (f := fun _ => some (nodT none)) (fun k => ?_) ?_
    · simp only [cluster_Node.l0]
      rw [if_neg (by omega)]; rfl
    · rw [List.drop_of_length_le (by omega)]; exact Ev.now _
  | m + 1, i, hi => by
    have hlt : i < l.length := by omega
    have hw : wrap64 ((i : Int) + 1) = ((i + 1 : Nat) : Int) := by unfold wrap64; omega
    have hd : l.drop i = l[i] :: l.drop (i + 1) := List.drop_eq_getElem_cons hlt
    rw [hd]
    by_cases hn : l[i].f0 = id
    · refine Ev.step (f := fun _ => some (nodT (some l[i]))) (fun k => ?_) ?_
      · simp only [cluster_Node.l0]
        rw [if_pos (by omega), if_pos (by omega), if_pos (by omega), rd150_nat l i hlt, if_pos hn]
        rfl
      · unfold fndN; rw [List.find?_cons_of_pos (by simpa using hn)]; exact Ev.now _
    · refine Ev.step (f := fun k => cluster_Node.l0 k id l (l.length : Int) ((i + 1 : Nat) : Int)) (fun k => ?_) ?_
      · simp only [cluster_Node.l0]
        rw [if_pos (by omega), if_pos (by omega), if_pos (by omega), rd150_nat l i hlt, if_neg hn, hw]
      · have := node0 l id hl m (i + 1) (by omega)
        unfold fndN at this ⊢; rw [List.find?_cons_of_neg (by simpa using hn)]; exact this
theorem node_ev (l : List S150) (l1 : List S260) (l2 : List S70) (id : Int) (hl : l.length ≤ 1000000000) : Ev (fun k => cluster_Node.f k l l1 l2 id) (nodT (fndN l id)) := node0 l id hl l.length 0 (by omega)
def restT (nodes : List S150) (pods : List S70) (node : Int) : Int × Int × Int × Int × Option Int :=
  match fndN nodes node with
  | none => errT 4
  | some n => if vle (useV pods node) vmx then (if vle n.f3 n.f2 then (if vle (useV pods node) (vsub n.f2 n.f3) then okT (vsub (vsub n.f2 n.f3) (useV pods node)) else errT 9) else errT 9) else errT 8
theorem fndN_mem {l : List S150} {id : Int} {n : S150} (h : fndN l id = some n) : n ∈ l ∧ n.f0 = id := ⟨List.mem_of_find?_eq_some h, by have := List.find?_some h; simpa using this⟩
theorem rest_ev (nodes : List S150) (l1 : List S260) (l2 : List S70) (pods : List S70) (a b node : Int) (hn : ∀ n ∈ nodes, uv n.f2 ∧ uv n.f3) (h : ∀ q ∈ pods, uv q.f3) (hl : nodes.length ≤ 1000000000) (hl2 : pods.length ≤ 1000000000) :
    Ev (fun k => room_Rest.f k nodes l1 l2 pods a b node) (restT nodes pods node) := by
  unfold room_Rest.f restRF restT
  refine Ev.bind (node_ev nodes l1 l2 node hl) ?_
  cases hf : fndN nodes node with
  | none => exact Ev.now _
  | some n =>
    obtain ⟨hm, _⟩ := fndN_mem hf
    obtain ⟨h2, h3⟩ := hn n hm
    simp only [nodT, if_true]
    refine Ev.bind (use_ev pods a b node h hl2) ?_
    unfold sumT
    by_cases c1 : vle (useV pods node) vmx
    · rw [if_pos c1, if_pos c1]
      have hu : uv (useV pods node) := uv_of (vsum_nn _ (use_uv h _)) c1
      simp only [okT, Option.isNone_none, if_true]
      rw [sub4 n.f2 n.f3 h2 h3, Option.bind_some]
      by_cases c2 : vle n.f3 n.f2
      · rw [if_pos c2, if_pos c2]
        simp only [okT, Option.isNone_none, if_true]
        rw [sub4 (vsub n.f2 n.f3) (useV pods node) (sub_uv h2 h3 c2) hu, Option.bind_some]
        by_cases c3 : vle (useV pods node) (vsub n.f2 n.f3)
        · rw [if_pos c3, if_pos c3]; exact Ev.now _
        · rw [if_neg c3, if_neg c3]; exact Ev.now _
      · rw [if_neg c2, if_neg c2]; exact Ev.now _
    · rw [if_neg c1, if_neg c1]; exact Ev.now _
end Go.Proofs.Ytppfkbigeknedaa.Q
