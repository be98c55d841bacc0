/- FitTight, in plain lists. -/
import Derived.Test.YtppfkbigeknedaaUStatFitTight
import Derived.Test.YtppfkbigeknedaaUFitLaws
namespace Go.Proofs.Ytppfkbigeknedaa.Q
open Go.RowKit Go.Proofs.YtppfkbigeknedaaW.PrintWords
set_option linter.unusedVariables false
set_option linter.unusedSimpArgs false
theorem tight_trans {a b c : S33} (h : tightV a b = true) (k : tightV b c = true) : tightV a c = true := by
  unfold tightV at *
  rw [tight_eq] at *
  exact lex_trans h k
theorem tight_irrefl (a : S33) : tightV a a = false := by
  unfold tightV
  rw [tight_eq]
  exact lex_irrefl _ _ _ _
theorem best_rel : ∀ (l : List S164) (b : S164), bestF b l = b ∨ tightV (bestF b l).f1 b.f1 = true
  | [], b => Or.inl rfl
  | c :: l, b => by
    rw [bestF]
    by_cases h : tightV c.f1 b.f1 = true
    · rw [if_pos h]
      rcases best_rel l c with e | e
      · rw [e]; exact Or.inr h
      · exact Or.inr (tight_trans e h)
    · rw [if_neg h]; exact best_rel l b
theorem best_least : ∀ (l : List S164) (b : S164), tightV b.f1 (bestF b l).f1 = false ∧ ∀ c ∈ l, tightV c.f1 (bestF b l).f1 = false
  | [], b => ⟨tight_irrefl _, fun c hc => by cases hc⟩
  | c :: l, b => by
    rw [bestF]
    by_cases h : tightV c.f1 b.f1 = true
    · rw [if_pos h]
      obtain ⟨h1, h2⟩ := best_least l c
      refine ⟨?_, fun d hd => ?_⟩
      · cases hb : tightV b.f1 (bestF c l).f1 with
        | false => rfl
        | true =>
          have := tight_trans h hb
          rw [h1] at this; cases this
      · rcases List.mem_cons.1 hd with rfl | hd
        · exact h1
        · exact h2 d hd
    · rw [if_neg h]
      obtain ⟨h1, h2⟩ := best_least l b
      refine ⟨h1, fun d hd => ?_⟩
      rcases List.mem_cons.1 hd with rfl | hd
      · cases hb : tightV d.f1 (bestF b l).f1 with
        | false => rfl
        | true =>
          rcases best_rel l b with e | e
          · rw [e] at hb; exact absurd hb h
          · exact absurd (tight_trans hb e) h
      · exact h2 d hd
theorem best_mem : ∀ (l : List S164) (b : S164), bestF b l ∈ b :: l
  | [], b => by simp [bestF]
  | c :: l, b => by
    rw [bestF]
    by_cases h : tightV c.f1 b.f1 = true
    · rw [if_pos h]; exact List.mem_cons_of_mem _ (best_mem l c)
    · rw [if_neg h]
      rcases List.mem_cons.1 (best_mem l b) with e | e
      · rw [e]; exact List.mem_cons_self
      · exact List.mem_cons_of_mem _ (List.mem_cons_of_mem _ e)
theorem chs_left {nodes : List S150} {pods : List S70} {req : S33} {l : List S150} {c : S164} (h : c ∈ chs nodes pods req l) : leftO nodes pods req c.f0 = some c.f1 := by
  unfold chs at h
  obtain ⟨n, _, hn⟩ := List.mem_filterMap.1 h
  cases hl : leftO nodes pods req n.f0 with
  | none => rw [hl] at hn; cases hn
  | some v =>
    rw [hl] at hn
    obtain rfl : (⟨n.f0, v⟩ : S164) = c := by simpa using hn
    exact hl
theorem left_rest {nodes : List S150} {pods : List S70} {req v : S33} {id : Int} (h : leftO nodes pods req id = some v) : ∃ r, restO nodes pods id = some r ∧ vle req r ∧ v = vsub r req := by
  unfold leftO at h
  cases hr : restO nodes pods id with
  | none => rw [hr] at h; cases h
  | some r =>
    rw [hr, Option.bind_some] at h
    by_cases hv : vle req r
    · rw [if_pos hv] at h; exact ⟨r, rfl, hv, (Option.some.inj h).symm⟩
    · rw [if_neg hv] at h; cases h
theorem rd_map0 (l : List S164) (i : Nat) (h : i < l.length) : rd (l.map fun c => c.f0) (i : Int) = l[i].f0 := by
  unfold rd
  rw [List.getD_eq_getElem?_getD, Int.toNat_natCast, List.getElem?_map, List.getElem?_eq_getElem h]
  rfl
theorem tight0 (nodes : List S150) (l1 : List S260) (l2 : List S70) (pods : List S70) (a b : Int) (req : S33) (hq : uv req) (hn : ∀ n ∈ nodes, uv n.f2 ∧ uv n.f3) (h : ∀ q ∈ pods, uv q.f3) (hl : nodes.length ≤ 1000000000) (hl2 : pods.length ≤ 1000000000)
    (cs : List S164) (hcs : ∀ c ∈ cs, leftO nodes pods req c.f0 = some c.f1) (hlc : cs.length ≤ 1000000000) (v : S33) (hv : ∀ c ∈ cs, tightV c.f1 v = false) :
    ∀ (m i : Nat), i + m = cs.length → Ev (fun k => dunnagelaw14_FitTight.l0 k true (cs.map fun c => c.f0) (i : Int) nodes l1 l2 pods a b req.f0 req.f1 req.f2 req.f3 v.f0 v.f1 v.f2 v.f3) true
  | 0, i, hi => by
    refine Ev.step (f := fun _ => some true) (fun k => ?_) (Ev.now _)
    simp only [dunnagelaw14_FitTight.l0]
    rw [if_neg (by rw [List.length_map]; omega)]
  | m + 1, i, hi => by
    have hlt : i < cs.length := by omega
    have hw : wrap64 ((i : Int) + 1) = ((i + 1 : Nat) : Int) := by unfold wrap64; omega
    have hm := List.getElem_mem hlt
    obtain ⟨r, hr, hvr, he⟩ := left_rest (hcs _ hm)
    have ht := hv _ hm
    have hre := rest_ev nodes l1 l2 pods a b cs[i].f0 hn h hl hl2
    rw [restT_some hr] at hre
    refine Ev.step (f := fun k => (room_Rest.f k nodes l1 l2 pods a b cs[i].f0).bind fun bt129 => ((vec_Sub.f bt129.1 bt129.2.1 bt129.2.2.1 bt129.2.2.2.1 req.f0 req.f1 req.f2 req.f3).bind fun bt135 => (if bt129.2.2.2.2.isNone = true then (if bt135.2.2.2.2.isNone = true then ((fit_Tighter.f bt135.1 bt135.2.1 bt135.2.2.1 bt135.2.2.2.1 v.f0 v.f1 v.f2 v.f3).bind fun t143 => (if t143 = true then (some false) else (dunnagelaw14_FitTight.l0 k true (cs.map fun c => c.f0) ((i + 1 : Nat) : Int) nodes l1 l2 pods a b req.f0 req.f1 req.f2 req.f3 v.f0 v.f1 v.f2 v.f3))) else (some false)) else (some false)))) (fun k => ?_) (Ev.bind hre ?_)
    · simp only [dunnagelaw14_FitTight.l0]
      rw [if_pos (by rw [List.length_map]; omega), if_pos (by omega), rd_map0 cs i hlt, hw]
    · simp only [okT, Option.isNone_none, if_true, sub4 r req (rest_uv hn h hr) hq, Option.bind_some, hvr, fit_Tighter.f]
      have ht' : tightF (vsub r req).f0 (vsub r req).f1 (vsub r req).f2 (vsub r req).f3 v.f0 v.f1 v.f2 v.f3 = false := by rw [← he]; exact ht
      simp only [ht', Bool.false_eq_true, if_false]
      exact tight0 nodes l1 l2 pods a b req hq hn h hl hl2 cs hcs hlc v hv m (i + 1) (by omega)
theorem pureFitTight : dunnagelaw14_FitTight.Pure := by
  intro s t req hs ht hq
  obtain ⟨⟨_, hs0⟩, _, _⟩ := hs
  obtain ⟨⟨_, ht0⟩, _, _⟩ := ht
  have hq := uvO hq
  obtain ⟨few, hfew, hf⟩ := few14 s.f0 s.f1 s.f2 [] 0 0 t.f0 t.f1 t.f2
  have hn : ∀ n ∈ s.f0, uv n.f2 ∧ uv n.f3 := fun n hn => ⟨uvO (hs0 n hn).2.2.1, uvO (hs0 n hn).2.2.2⟩
  have hp : ∀ q ∈ t.f0, uv q.f3 := fun q hq => uvO (ht0 q hq).2.2.2.1
  have hall : Ev (fun k => dunnagelaw14_FitTight.f k s.f0 s.f1 s.f2 t.f0 t.f1 t.f2 req.f0 req.f1 req.f2 req.f3) true := by
    unfold dunnagelaw14_FitTight.f
    refine Ev.bind law14_up_ev ?_
    rw [hfew]
    simp only [Option.bind_some]
    cases few with
    | false => simp only [Bool.false_eq_true, if_false]; exact Ev.now _
    | true =>
      have hl : s.f0.length ≤ 1000000000 := by have := (hf rfl).1; omega
      have hl2 : t.f0.length ≤ 1000000000 := by have := (hf rfl).2.2; omega
      simp only [if_true]
      refine Ev.bind (fits_ev s.f0 s.f1 s.f2 t.f0 t.f1 t.f2 req hq hn hp hl hl2) ?_
      have he := first_ev s.f0 s.f1 s.f2 t.f0 t.f1 t.f2 req hq hn hp hl hl2
      have hb := best_ev s.f0 s.f1 s.f2 t.f0 t.f1 t.f2 req hq hn hp hl hl2
      have hlen := chs_len s.f0 t.f0 req s.f0
      have hleft : ∀ c ∈ chs s.f0 t.f0 req s.f0, leftO s.f0 t.f0 req c.f0 = some c.f1 := fun c hc => chs_left hc
      generalize chs s.f0 t.f0 req s.f0 = C at he hb hlen hleft ⊢
      cases C with
      | nil =>
        simp only [List.map_nil, List.length_nil, Int.natCast_zero, if_true]
        refine Ev.bind he ?_
        simp only [firstL, if_true]
        refine Ev.bind hb ?_
        exact Ev.now _
      | cons c l =>
        have h0 : ¬ (((c :: l).map fun c => c.f0).length : Int) = 0 := by simp only [List.map_cons, List.length_cons]; omega
        have h1 : (0 : Int) < (((c :: l).map fun c => c.f0).length : Int) := by simp only [List.map_cons, List.length_cons]; omega
        have h2 : rd ((c :: l).map fun c => c.f0) 0 = c.f0 := rfl
        simp only [h0, if_false]
        refine Ev.bind hb ?_
        obtain ⟨r, hr, hvr, hz⟩ := left_rest (hleft _ (best_mem l c))
        have hre := rest_ev s.f0 s.f1 s.f2 t.f0 t.f1 t.f2 (bestF c l).f0 hn hp hl hl2
        rw [restT_some hr] at hre
        refine Ev.bind hre ?_
        simp only [okT, Option.isNone_none, if_true, sub4 r req (rest_uv hn hp hr) hq, Option.bind_some, hvr]
        refine Ev.bind he ?_
        simp only [h1, if_true, h2, firstL, bne_self_eq_false]
        refine Ev.step (f := fun k => dunnagelaw14_FitTight.l0 k true ((c :: l).map fun c => c.f0) ((0 : Nat) : Int) s.f0 s.f1 s.f2 t.f0 t.f1 t.f2 req.f0 req.f1 req.f2 req.f3 (vsub r req).f0 (vsub r req).f1 (vsub r req).f2 (vsub r req).f3) (fun k => ?_) ?_
        · simp only [dunnagelaw14_FitTight.j0, Bool.false_eq_true, if_false]
          rfl
        · refine tight0 s.f0 s.f1 s.f2 t.f0 t.f1 t.f2 req hq hn hp hl hl2 (c :: l) hleft (by omega) _ ?_ (c :: l).length 0 (by omega)
          rw [← hz]
          obtain ⟨g1, g2⟩ := best_least l c
          intro d hd
          rcases List.mem_cons.1 hd with rfl | hd
          · exact g1
          · exact g2 d hd
  exact hall.rounds
end Go.Proofs.Ytppfkbigeknedaa.Q
