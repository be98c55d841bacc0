/- The document's answers for room, in plain numbers: sums, what is used, what is left. -/
import Derived.Test.YtppfkbigeknedaaUFitLaws
import Derived.Test.YtppfkbigeknedaaUQdunnageref06Rest
namespace Go.Proofs.Ytppfkbigeknedaa.Q
open Go.RowKit Go.Proofs.YtppfkbigeknedaaW.PrintWords
set_option linter.unusedVariables false
set_option linter.unusedSimpArgs false
theorem half_spec' (a : Int) (h : 0 ≤ a) (h' : a < 18446744073709551616) : dunnageref01_half.f a false = some (a % 4294967296) ∧ dunnageref01_half.f a true = some (a / 4294967296) := by
  constructor
  · simp [dunnageref01_half.f, Int.tmod_eq_emod_of_nonneg h]
  · simp only [dunnageref01_half.f, if_true, Int.tdiv_eq_ediv_of_nonneg h, IntKind.wrap_u64]
    congr 1; omega
theorem one_spec' (a b : Int) (ha : 0 ≤ a) (ha' : a < 18446744073709551616) (hb : 0 ≤ b) (hb' : b < 18446744073709551616) :
    oneF a b = if a + b < 18446744073709551616 then (a + b, true) else (0, false) := by
  have e : dunnageref01_one.f a b = some (if a + b < 18446744073709551616 then (a + b, true) else (0, false)) := by
    unfold dunnageref01_one.f
    rw [(half_spec' a ha ha').1, (half_spec' a ha ha').2, (half_spec' b hb hb').1, (half_spec' b hb hb').2]
    simp only [Option.bind_some, IntKind.wrap_u64]
    have e1 : (a % 4294967296 + b % 4294967296) % 18446744073709551616 = a % 4294967296 + b % 4294967296 := by omega
    rw [e1, Int.tdiv_eq_ediv_of_nonneg (by omega), Int.tmod_eq_emod_of_nonneg (by omega)]
    by_cases h : a + b < 18446744073709551616
    · rw [if_pos h, if_neg (by omega)]
      congr 2; omega
    · rw [if_neg h, if_pos (by omega)]
  rw [oneF, e]; rfl
def okV (v : S33) : Int × Int × Int × Int × Bool := (v.f0, v.f1, v.f2, v.f3, true)
def errV : Int × Int × Int × Int × Bool := (0, 0, 0, 0, false)
def sumB (v : S33) : Int × Int × Int × Int × Bool := if vle v vmx then okV v else errV
theorem one_pair (a b : Int) (ha : 0 ≤ a) (ha' : a < 18446744073709551616) (hb : 0 ≤ b) (hb' : b < 18446744073709551616) : oneF a b = if a + b < 18446744073709551616 then (a + b, true) else (0, false) := by
  rw [one_spec' a b ha ha' hb hb']
theorem addB4 (a b : S33) (ha : uv a) (hb : uv b) : dunnageref01_Add.f a.f0 a.f1 a.f2 a.f3 b.f0 b.f1 b.f2 b.f3 = some (sumB (vadd a b)) := by
  obtain ⟨a0, a1, a2, a3⟩ := ha
  obtain ⟨b0, b1, b2, b3⟩ := hb
  unfold u64N at *
  have hv : vle (vadd a b) vmx ↔ (a.f0 + b.f0 < 18446744073709551616 ∧ a.f1 + b.f1 < 18446744073709551616 ∧ a.f2 + b.f2 < 18446744073709551616 ∧ a.f3 + b.f3 < 18446744073709551616) := by
    unfold vle vadd vmx; simp only; omega
  unfold dunnageref01_Add.f sumB each4b
  rw [one_pair _ _ a0.1 a0.2 b0.1 b0.2, one_pair _ _ a1.1 a1.2 b1.1 b1.2, one_pair _ _ a2.1 a2.2 b2.1 b2.2, one_pair _ _ a3.1 a3.2 b3.1 b3.2]
  by_cases hc : a.f0 + b.f0 < 18446744073709551616 ∧ a.f1 + b.f1 < 18446744073709551616 ∧ a.f2 + b.f2 < 18446744073709551616 ∧ a.f3 + b.f3 < 18446744073709551616
  · obtain ⟨k0, k1, k2, k3⟩ := hc
    rw [if_pos (hv.2 ⟨k0, k1, k2, k3⟩)]
    simp [k0, k1, k2, k3, okV, vadd]
  · rw [if_neg (fun h => hc (hv.1 h))]
    unfold errV
    by_cases k0 : a.f0 + b.f0 < 18446744073709551616 <;> by_cases k1 : a.f1 + b.f1 < 18446744073709551616 <;> by_cases k2 : a.f2 + b.f2 < 18446744073709551616 <;> by_cases k3 : a.f3 + b.f3 < 18446744073709551616 <;> first | omega | simp [k0, k1, k2, k3]
theorem subB4 (a b : S33) (ha : uv a) (hb : uv b) : dunnageref01_Sub.f a.f0 a.f1 a.f2 a.f3 b.f0 b.f1 b.f2 b.f3 = some (if vle b a then okV (vsub a b) else errV) := by
  obtain ⟨a0, a1, a2, a3⟩ := ha
  obtain ⟨b0, b1, b2, b3⟩ := hb
  unfold u64N at *
  have hv : vle b a ↔ (b.f0 ≤ a.f0 ∧ b.f1 ≤ a.f1 ∧ b.f2 ≤ a.f2 ∧ b.f3 ≤ a.f3) := Iff.rfl
  have ew : ∀ x y : Int, 0 ≤ x → x < 18446744073709551616 → 0 ≤ y → y ≤ x → IntKind.u64.wrap (x - y) = x - y := fun x y _ _ _ _ => by rw [IntKind.wrap_u64]; omega
  unfold dunnageref01_Sub.f dunnageref01_Fits.f
  by_cases hc : b.f0 ≤ a.f0 ∧ b.f1 ≤ a.f1 ∧ b.f2 ≤ a.f2 ∧ b.f3 ≤ a.f3
  · obtain ⟨k0, k1, k2, k3⟩ := hc
    rw [if_pos k0, if_pos k1, if_pos k2, if_pos (hv.2 ⟨k0, k1, k2, k3⟩), decide_eq_true k3, Option.bind_some, if_pos rfl, ew _ _ a0.1 a0.2 b0.1 k0, ew _ _ a1.1 a1.2 b1.1 k1, ew _ _ a2.1 a2.2 b2.1 k2, ew _ _ a3.1 a3.2 b3.1 k3]
    rfl
  · rw [if_neg (fun h => hc (hv.1 h))]
    unfold errV
    by_cases k0 : b.f0 ≤ a.f0 <;> by_cases k1 : b.f1 ≤ a.f1 <;> by_cases k2 : b.f2 ≤ a.f2 <;> by_cases k3 : b.f3 ≤ a.f3 <;> first | omega | simp [k0, k1, k2, k3]
theorem refSum0 (l : List S33) (h : ∀ x ∈ l, uv x) (hl : l.length ≤ 1000000000) : ∀ (m i : Nat) (v : S33), i + m = l.length → uv v → Ev (fun k => dunnageref01_Sum.l0 k l true (i : Int) v.f0 v.f1 v.f2 v.f3) (sumB (vadd v (vsum (l.drop i))))
  | 0, i, v, hi, hv => by
    refine Ev.step (f := fun _ => some (okV v)) (fun k => ?_) ?_
    · simp only [dunnageref01_Sum.l0]
      rw [if_neg (by omega)]; rfl
    · rw [List.drop_of_length_le (by omega)]
      show Ev _ (sumB (vadd v z33))
      rw [vadd_zero]
      have : vle v vmx := by obtain ⟨a0, a1, a2, a3⟩ := hv; unfold u64N at *; unfold vle vmx; simp only; omega
      unfold sumB; rw [if_pos this]; exact Ev.now _
  | m + 1, i, v, hi, hv => by
    have hlt : i < l.length := by omega
    have hw : wrap64 ((i : Int) + 1) = ((i + 1 : Nat) : Int) := by unfold wrap64; omega
    have hx := h l[i] (List.getElem_mem hlt)
    have hd : l.drop i = l[i] :: l.drop (i + 1) := List.drop_eq_getElem_cons hlt
    have hn := vsum_nn (l.drop (i + 1)) (fun x hx => h x (List.mem_of_mem_drop hx))
    rw [hd]
    show Ev _ (sumB (vadd v (vadd l[i] (vsum (l.drop (i + 1))))))
    rw [← vadd_assoc]
    by_cases hc : vle (vadd v l[i]) vmx
    · have hu : uv (vadd v l[i]) := uv_of (by obtain ⟨a0, a1, a2, a3⟩ := hv.nn; obtain ⟨b0, b1, b2, b3⟩ := hx.nn; unfold vadd; exact ⟨by show 0 ≤ v.f0 + _; omega, by show 0 ≤ v.f1 + _; omega, by show 0 ≤ v.f2 + _; omega, by show 0 ≤ v.f3 + _; omega⟩) hc
      refine Ev.step (f := fun k => dunnageref01_Sum.l0 k l true ((i + 1 : Nat) : Int) (vadd v l[i]).f0 (vadd v l[i]).f1 (vadd v l[i]).f2 (vadd v l[i]).f3) (fun k => ?_) (refSum0 l h hl m (i + 1) _ (by omega) hu)
      simp only [dunnageref01_Sum.l0]
      rw [if_pos (by omega), if_pos trivial, if_pos (by omega), rd33_nat l i hlt, addB4 _ _ hv hx, Option.bind_some]
      unfold sumB
      rw [if_pos hc, hw]
      rfl
    · refine Ev.step (f := fun k => dunnageref01_Sum.l0 k l false ((i + 1 : Nat) : Int) 0 0 0 0) (fun k => ?_) ?_
      · simp only [dunnageref01_Sum.l0]
        rw [if_pos (by omega), if_pos trivial, if_pos (by omega), rd33_nat l i hlt, addB4 _ _ hv hx, Option.bind_some]
        unfold sumB
        rw [if_neg hc, hw]
        rfl
      · have : ¬ vle (vadd (vadd v l[i]) (vsum (l.drop (i + 1)))) vmx := by
          intro hh
          apply hc
          obtain ⟨a0, a1, a2, a3⟩ := hh; obtain ⟨b0, b1, b2, b3⟩ := hn
          generalize vsum (l.drop (i + 1)) = s at *
          generalize vadd v l[i] = t at *
          unfold vadd at a0 a1 a2 a3
          simp only at a0 a1 a2 a3
          exact ⟨by omega, by omega, by omega, by omega⟩
        unfold sumB; rw [if_neg this]
        refine Ev.step (f := fun _ => some errV) (fun k => ?_) (Ev.now _)
        simp only [dunnageref01_Sum.l0]
        split
        · rfl
        · rfl
theorem refSum_ev (l : List S33) (h : ∀ x ∈ l, uv x) (hl : l.length ≤ 1000000000) : Ev (fun k => dunnageref01_Sum.f k l) (sumB (vsum l)) := by
  have := refSum0 l h hl l.length 0 z33 (by omega) z_uv
  rw [zero_vadd] at this
  exact this
theorem refUse0 (pods : List S70) (node a b : Int) (h : ∀ q ∈ pods, uv q.f3) (hl : pods.length ≤ 1000000000) (F : List S33) (hF : ∀ x ∈ F, uv x) (hFl : F.length ≤ 1000000000) : ∀ (m i : Nat) (acc : List S33), i + m = pods.length → acc ++ ((pods.drop i).filter fun q => q.f4 == node).map (fun q => q.f3) = F → Ev (fun k => dunnageref06_Use.l0 k node acc (i : Int) pods a b) (sumB (vsum F))
  | 0, i, acc, hi, hA => by
    rw [List.drop_of_length_le (by omega)] at hA
    simp at hA
    subst hA
    refine Ev.step (f := fun k => (dunnageref01_Sum.f k acc).bind fun bt108 => (if bt108.2.2.2.2 = true then (some (bt108.1, bt108.2.1, bt108.2.2.1, bt108.2.2.2.1, true)) else (some (0, 0, 0, 0, false)))) (fun k => ?_) (Ev.bind (refSum_ev acc hF hFl) ?_)
    · simp only [dunnageref06_Use.l0]
      rw [if_neg (by omega)]
    · unfold sumB
      by_cases hc : vle (vsum acc) vmx
      · rw [if_pos hc]; exact Ev.now _
      · rw [if_neg hc]; exact Ev.now _
  | m + 1, i, acc, hi, hA => by
    have hlt : i < pods.length := by omega
    have hw : wrap64 ((i : Int) + 1) = ((i + 1 : Nat) : Int) := by unfold wrap64; omega
    have hd : pods.drop i = pods[i] :: pods.drop (i + 1) := List.drop_eq_getElem_cons hlt
    rw [hd] at hA
    by_cases hn : pods[i].f4 = node
    · rw [List.filter_cons, if_pos (by simpa using hn), List.map_cons] at hA
      have hal : acc.length < 4398046511104 := by
        have : acc.length ≤ F.length := by rw [← hA]; simp
        omega
      refine Ev.step (f := fun k => dunnageref06_Use.l0 k node (acc ++ [pods[i].f3]) ((i + 1 : Nat) : Int) pods a b) (fun k => ?_) (refUse0 pods node a b h hl F hF hFl m (i + 1) (acc ++ [pods[i].f3]) (by omega) (by rw [List.append_assoc]; exact hA))
      simp only [dunnageref06_Use.l0]
      rw [if_pos (by omega), if_pos (by omega), rd70_nat' pods i hlt, if_pos hn, if_pos hal, hw]
    · rw [List.filter_cons, if_neg (by simpa using hn)] at hA
      refine Ev.step (f := fun k => dunnageref06_Use.l0 k node acc ((i + 1 : Nat) : Int) pods a b) (fun k => ?_) (refUse0 pods node a b h hl F hF hFl m (i + 1) _ (by omega) hA)
      simp only [dunnageref06_Use.l0]
      rw [if_pos (by omega), if_pos (by omega), rd70_nat' pods i hlt, if_neg hn, hw]
theorem refUse_ev (pods : List S70) (a b node : Int) (h : ∀ q ∈ pods, uv q.f3) (hl : pods.length ≤ 1000000000) : Ev (fun k => dunnageref06_Use.f k pods a b node) (sumB (useV pods node)) :=
  refUse0 pods node a b h hl _ (use_uv h _) (by rw [List.length_map]; exact Nat.le_trans (List.length_filter_le _ _) hl) pods.length 0 [] (by omega) rfl
theorem refNode0 (l : List S150) (l1 : List S260) (l2 : List S70) (id : Int) (hl : l.length ≤ 1000000000) : ∀ (m i : Nat), i + m = l.length →
    ∃ t, Ev (fun k => dunnageref03_Node.l0 k id (i : Int) l l1 l2) t ∧ ((t = -1 ∧ fndN (l.drop i) id = none) ∨ (∃ j : Nat, t = (j : Int) ∧ ∃ hj : j < l.length, fndN (l.drop i) id = some l[j]))
  | 0, i, hi => by
    refine ⟨-1, Ev.step (f := fun _ => some (-1)) (fun k => ?_) (Ev.now _), Or.inl ⟨rfl, ?_⟩⟩
    · simp only [dunnageref03_Node.l0]
      rw [if_neg (by omega)]
    · rw [List.drop_of_length_le (by omega)]; rfl
  | m + 1, i, hi => by
    have hlt : i < l.length := by omega
    have hw : wrap64 ((i : Int) + 1) = ((i + 1 : Nat) : Int) := by unfold wrap64; omega
    have hd : l.drop i = l[i] :: l.drop (i + 1) := List.drop_eq_getElem_cons hlt
    by_cases hn : l[i].f0 = id
    · refine ⟨(i : Int), Ev.step (f := fun _ => some (i : Int)) (fun k => ?_) (Ev.now _), Or.inr ⟨i, rfl, hlt, ?_⟩⟩
      · simp only [dunnageref03_Node.l0]
        rw [if_pos (by omega), if_pos (by omega), rd150_nat l i hlt, if_pos hn]
      · rw [hd]; unfold fndN; rw [List.find?_cons_of_pos (by simpa using hn)]
    · obtain ⟨t, ht, hs⟩ := refNode0 l l1 l2 id hl m (i + 1) (by omega)
      refine ⟨t, Ev.step (f := fun k => dunnageref03_Node.l0 k id ((i + 1 : Nat) : Int) l l1 l2) (fun k => ?_) ht, ?_⟩
      · simp only [dunnageref03_Node.l0]
        rw [if_pos (by omega), if_pos (by omega), rd150_nat l i hlt, if_neg hn, hw]
      · have e : fndN (l.drop i) id = fndN (l.drop (i + 1)) id := by rw [hd]; unfold fndN; rw [List.find?_cons_of_neg (by simpa using hn)]
        rw [e]; exact hs
def restB (o : Option S33) (r : Int × Int × Int × Int × Int) : Prop := match o with
  | some v => r = (v.f0, v.f1, v.f2, v.f3, 0)
  | none => ∃ c, c ≠ 0 ∧ r = (0, 0, 0, 0, c)
theorem refRest_ev (nodes : List S150) (l1 : List S260) (l2 : List S70) (pods : List S70) (a b node : Int) (hn : ∀ n ∈ nodes, uv n.f2 ∧ uv n.f3) (h : ∀ q ∈ pods, uv q.f3) (hl : nodes.length ≤ 1000000000) (hl2 : pods.length ≤ 1000000000) :
    ∃ r, Ev (fun k => dunnageref06_Rest.f k nodes l1 l2 pods a b node) r ∧ restB (restO nodes pods node) r := by
  obtain ⟨t, ht, hs⟩ := refNode0 nodes l1 l2 node hl nodes.length 0 (by omega)
  rw [List.drop_zero] at hs
  rcases hs with ⟨rfl, hf⟩ | ⟨j, rfl, hj, hf⟩
  · refine ⟨(0, 0, 0, 0, 4), ?_, ?_⟩
    · unfold dunnageref06_Rest.f rest6F
      refine Ev.bind ht ?_
      simp only [show ((-1 : Int) < 0) from by decide, if_true]; exact Ev.now _
    · unfold restO; rw [hf]; exact ⟨4, by decide, rfl⟩
  · obtain ⟨h2, h3⟩ := hn nodes[j] (List.getElem_mem hj)
    by_cases c1 : vle (useV pods node) vmx
    · have hu : uv (useV pods node) := uv_of (vsum_nn _ (use_uv h _)) c1
      by_cases c2 : vle nodes[j].f3 nodes[j].f2
      · by_cases c3 : vle (useV pods node) (vsub nodes[j].f2 nodes[j].f3)
        · refine ⟨((vsub (vsub nodes[j].f2 nodes[j].f3) (useV pods node)).f0, (vsub (vsub nodes[j].f2 nodes[j].f3) (useV pods node)).f1, (vsub (vsub nodes[j].f2 nodes[j].f3) (useV pods node)).f2, (vsub (vsub nodes[j].f2 nodes[j].f3) (useV pods node)).f3, 0), ?_, ?_⟩
          · unfold dunnageref06_Rest.f rest6F
            refine Ev.bind ht ?_
            simp only [show ¬ ((j : Int) < 0) from by omega, if_false]
            refine Ev.bind (refUse_ev pods a b node h hl2) ?_
            unfold sumB
            rw [if_pos c1]
            simp only [okV, if_true]
            rw [if_pos (by omega), if_pos (by omega), rd150_nat nodes j hj, subB4 _ _ h2 h3, Option.bind_some, if_pos c2]
            simp only [okV, if_true]
            rw [subB4 (vsub nodes[j].f2 nodes[j].f3) (useV pods node) (sub_uv h2 h3 c2) hu, Option.bind_some, if_pos c3]
            exact Ev.now _
          · unfold restO; rw [hf]; simp only; rw [if_pos c1, if_pos c2, if_pos c3]; rfl
        · refine ⟨(0, 0, 0, 0, 9), ?_, ?_⟩
          · unfold dunnageref06_Rest.f rest6F
            refine Ev.bind ht ?_
            simp only [show ¬ ((j : Int) < 0) from by omega, if_false]
            refine Ev.bind (refUse_ev pods a b node h hl2) ?_
            unfold sumB
            rw [if_pos c1]
            simp only [okV, if_true]
            rw [if_pos (by omega), if_pos (by omega), rd150_nat nodes j hj, subB4 _ _ h2 h3, Option.bind_some, if_pos c2]
            simp only [okV, if_true]
            rw [subB4 (vsub nodes[j].f2 nodes[j].f3) (useV pods node) (sub_uv h2 h3 c2) hu, Option.bind_some, if_neg c3]
            exact Ev.now _
          · unfold restO; rw [hf]; simp only; rw [if_pos c1, if_pos c2, if_neg c3]; exact ⟨9, by decide, rfl⟩
      · refine ⟨(0, 0, 0, 0, 9), ?_, ?_⟩
        · unfold dunnageref06_Rest.f rest6F
          refine Ev.bind ht ?_
          simp only [show ¬ ((j : Int) < 0) from by omega, if_false]
          refine Ev.bind (refUse_ev pods a b node h hl2) ?_
          unfold sumB
          rw [if_pos c1]
          simp only [okV, if_true]
          rw [if_pos (by omega), if_pos (by omega), rd150_nat nodes j hj, subB4 _ _ h2 h3, Option.bind_some, if_neg c2]
          exact Ev.now _
        · unfold restO; rw [hf]; simp only; rw [if_pos c1, if_neg c2]; exact ⟨9, by decide, rfl⟩
    · refine ⟨(0, 0, 0, 0, 8), ?_, ?_⟩
      · unfold dunnageref06_Rest.f rest6F
        refine Ev.bind ht ?_
        simp only [show ¬ ((j : Int) < 0) from by omega, if_false]
        refine Ev.bind (refUse_ev pods a b node h hl2) ?_
        unfold sumB
        rw [if_neg c1]
        exact Ev.now _
      · unfold restO; rw [hf]; simp only; rw [if_neg c1]; exact ⟨8, by decide, rfl⟩
end Go.Proofs.Ytppfkbigeknedaa.Q
