import Derived.Test.YtppfkbigeknedaaKQ0
import Derived.Test.YtppfkbigeknedaaKPP
import Derived.Test.YtppfkbigeknedaaKQdunnageref04Moves
namespace Go.Proofs.Ytppfkbigeknedaa.Q
open Go.RowKit Go.Proofs.YtppfkbigeknedaaW.PrintWords Go.Proofs.YtppfkbigeknedaaW.PrintLast Go.Proofs.YtppfkbigeknedaaW.PrintMore
attribute [local go_sem] max2_int min2_int max_two min_two max_three min_three max_four min_four   -- for this text's walks alone
set_option linter.unusedVariables false
set_option linter.unusedSimpArgs false

attribute [local go_sem] eqe_ii eqe_nn eqe_ni eqe_nni
namespace FoldQdunnageref22bytes
theorem F1_ {p : Prop} (h : p := by repeat (first | (with_reducible first | exact HB.out | apply below_alloc | apply pw_below_drewN | apply below_drew1 | refine below_set ?_ GE101.out) | exact HB.out)) : p := h
theorem F2_ {p : Prop} (h : p := by repeat (first | (with_reducible first | exact HB.out | apply below_alloc | apply pw_below_drewN | apply below_drew1 | refine below_set ?_ GE101.out) | exact HB.out)) : p := h
theorem F3_ {p : Prop} (h : p := by (with_reducible repeat (first | refine blk_drewN ?_ _ | refine blk_drew ?_ | refine blk_alloc ?_ _)); exact BK101.out) : p := h
theorem F4_ {p : Prop} (h : p := by first | rfl | (simp [errW_none, errW_some] <;> rfl) | (simp [*, errW_none, errW_some] <;> rfl)) : p := h
theorem F5_ {p : Prop} (h : p := by first | exact Kd.R_nil _ _ _ _ _ | exact Kd.N_nil _ _ _ _ _ | exact Kd.V_nil _ _ _ _ _ | exact Kd.Q_nil _ _ _ _ _ | exact Kd.S_nil _ _ _ _ _) : p := h
theorem F6_ {p : Prop} (h : p := by (with_reducible repeat (first | apply Kd.R_alloc | apply Kd.R_drewN | apply Kd.R_drew)); exact HO105.out) : p := h
theorem F7_ {p : Prop} (h : p := by (try simp only [List.map_toArray, List.map_cons, List.map_nil]); first | done | rfl | (simp only [List.length_drop, List.length_take]; rfl)) : p := h
theorem F8_ {p : Prop} (h : p := by repeat (first | (with_reducible first | exact HB.out | apply below_alloc | apply pw_below_drewN | apply below_drew1) | exact HB.out)) : p := h
end FoldQdunnageref22bytes
open FoldQdunnageref22bytes
def dunnageref22_bytes.j0 : Nat → Bool → Int → Int → List (S130) → Option (List Int × Bool)
  | 0, _, _, _, _ => none
  | k + 1, x13, x102000, x102001, x102002 => if x13 = true then ((dunnageref04_Moves.f k x102002).bind fun bt102 => ((some (([1] : List Int) : List Int)).bind fun y106 => (if y106.length + bt102.1.length < 17592186044416 then ((dunnageref02_Put.f k (y106 ++ bt102.1)).bind fun t112 => (some (t112, bt102.2))) else (none)))) else (if x102000 < 2 then (some (([] : List Int), false)) else (if x102000 > 4 then (some (([] : List Int), false)) else (if x102001 < 1 then (some (([] : List Int), false)) else (if x102001 > 40 then (some (([] : List Int), false)) else (if (x102002.length : Int) = 0 then ((dunnageref02_Put.f k (([IntKind.u64.wrap (x102000), IntKind.u64.wrap (x102001)] : List Int))).bind fun t118 => (some (t118, true))) else (some (([] : List Int), false)))))))
def dunnageref22_bytes.f (k : Nat) (a0_0 : Int) (a0_1 : Int) (l0_2 : List (S130)) : Option (List Int × Bool) := if a0_0 = 1 then (dunnageref22_bytes.j0 k (a0_1 == 0) a0_0 a0_1 l0_2) else (dunnageref22_bytes.j0 k false a0_0 a0_1 l0_2)
theorem dunnageref22_bytes.mono_l : ∀ k, (∀ y0 y1 y2 y3, LeO (dunnageref22_bytes.j0 k y0 y1 y2 y3) (dunnageref22_bytes.j0 (k + 1) y0 y1 y2 y3))
  | 0 => fun _ _ _ _ r h => by simp [dunnageref22_bytes.j0] at h
  | k + 1 => by
    have ih0 := dunnageref22_bytes.mono_l k
    · intro y0 y1 y2 y3
      unfold dunnageref22_bytes.j0
      repeat' first
      | (with_reducible exact ih0 _ _ _ _)
      | (with_reducible exact dunnageref02_Put.mono _ _)
      | (with_reducible exact dunnageref04_Moves.mono _ _)
      | (with_reducible exact LeO.refl _)
      | (with_reducible exact LeO.none _)
      | (with_reducible refine LeO.ite ?_ ?_)
      | (with_reducible refine LeO.bind ?_ (fun _ => ?_))
      | exact ih0 _ _ _ _
      | exact dunnageref02_Put.mono _ _
      | exact dunnageref04_Moves.mono _ _
      | exact LeO.none _
      | refine LeO.ite ?_ ?_
      | refine LeO.bind ?_ (fun _ => ?_)
theorem dunnageref22_bytes.mono : ∀ a0 a1 a2 k, LeO (dunnageref22_bytes.f k a0 a1 a2) (dunnageref22_bytes.f (k + 1) a0 a1 a2) := by
  intro a0 a1 a2 k
  have ih0 := dunnageref22_bytes.mono_l k
  unfold dunnageref22_bytes.f
  repeat' first
      | (with_reducible exact ih0 _ _ _ _)
      | (with_reducible exact dunnageref02_Put.mono _ _)
      | (with_reducible exact dunnageref04_Moves.mono _ _)
      | (with_reducible exact LeO.refl _)
      | (with_reducible exact LeO.none _)
      | (with_reducible refine LeO.ite ?_ ?_)
      | (with_reducible refine LeO.bind ?_ (fun _ => ?_))
      | exact ih0 _ _ _ _
      | exact dunnageref02_Put.mono _ _
      | exact dunnageref04_Moves.mono _ _
      | exact LeO.none _
      | refine LeO.ite ?_ ?_
      | refine LeO.bind ?_ (fun _ => ?_)
set_option maxHeartbeats 8000000 in
set_option maxRecDepth 100000 in
theorem dunnageref22_bytes.calls (k : Nat) (a0_0 : Int) (a0_1 : Int) (A0_2 : Option Addr) (c0_2 : Nat) (l0_2 : List (S130)) (r1 : List Int) (r2 : Bool) (w : World) (hr0_2 : Kd.C k130 w A0_2 l0_2.length l0_2) (hc0_2 : l0_2.length ≤ c0_2) (h : dunnageref22_bytes.f k a0_0 a0_1 l0_2 = some (r1, r2)) :
    Calls Try.prog 87 #[.agg #[.int .i64 a0_0, .int .i64 a0_1, .slice A0_2 l0_2.length c0_2]] w fun e w' => ∃ v0_ : Value, e = .returned (.tuple #[v0_, .bool r2]) ∧ Kd.R (Kd.int .u8) 5 w' w.heap.size (fun _ => True) v0_ r1 ∧ Below w.heap.size w w' := by
  have hu60 := Try.underlying60
  have HR0_2 := Aside0.mk hr0_2
  have HC0_2 := Aside0.mk hc0_2
  clear hr0_2 hc0_2
  have HB := Aside0.mk (Below.refl w.heap.size w)
  have H : (if a0_0 = 1 then (dunnageref22_bytes.j0 k (a0_1 == 0) a0_0 a0_1 l0_2) else (dunnageref22_bytes.j0 k false a0_0 a0_1 l0_2)) = some (r1, r2) := h
  clear h
  have HC2 := Aside0.mk H
  clear H
  go_enter Try.func87, Try.ntmps87
  go_upto_region 1 with (first | ((with_reducible refine gate_dst (N := 1) rfl ?_); (try (refine gate_guard (by rfl) ?_; dsimp only)); refine box_event ?hg (N := 1) ?hd (cs := #[.int .i64 a0_0, .int .i64 a0_1, .slice A0_2 l0_2.length c0_2]) (t := 60) ?hr ?_; (case hd => rfl); (case hg => rfl); (case hr => first | (go_simp; done) | (go_simp; rfl)); intro gb101 hg w3 hbox hb; have n0_ := Aside0.mk (below_step F8_ hb); have n1_ := Aside0.mk (hbox); have n2_ := Aside0.mk ((by rw [hg]; exact (below_size F8_) : w.heap.size ≤ gb101)); have n3_ := Aside0.mk ((by rw [hg]; exact (below_size F8_) : w.heap.size ≤ gb101)); clear HB; have HB := n0_; have BK101 := n1_; have GW101 := n2_; have GE101 := n3_; clear n0_ n1_ n2_ n3_; clear hb hbox hg))
  (try simp only [Act.put, List.setIfInBounds_toArray, List.set_cons_zero, List.set_cons_succ])
  go_cut [13] (fun v13 wc => ∃ (kq : Nat) (x13_1 : Bool), v13 = .bool x13_1 ∧ Aside0 (dunnageref22_bytes.j0 kq x13_1 a0_0 a0_1 l0_2 = some (r1, r2)) ∧ Aside0 (kq ≤ k) ∧ Aside0 (wc.heap[gb101]? = some (.cells #[.int .i64 a0_0, .int .i64 a0_1, (.slice A0_2 l0_2.length c0_2)] 60 (0, 0))) ∧ Aside0 (Below w.heap.size w wc))
  case first =>
    have H := HC2.out
    clear HC2
    by_cases c4 : a0_0 = 1
    · rw [if_pos c4] at H
      have c4b0 : (a0_0 == 1) = true := beq_iff_eq.mpr c4
      have c4b1 : (a0_0 != 1) = false := bne_eq_false_iff_eq.mpr c4
      clear c4
      (first | rw [c4b0] | (simp only [i64_w, i32_w]; rw [c4b0]) | skip)
      have H' := Aside0.mk H
      clear H
      have hcz5_0 : w3.cell? ⟨gb101, 0, none⟩ = some (.int .i64 a0_0) := (blk_cell BK101.out 0).trans rfl
      have hcz5_1 : w3.cell? ⟨gb101, 1, none⟩ = some (.int .i64 a0_1) := (blk_cell BK101.out 1).trans rfl
      have hcz5_2 : w3.cell? ⟨gb101, 2, none⟩ = some (.slice A0_2 l0_2.length c0_2) := (blk_cell BK101.out 2).trans rfl
      have hfz5_0 := blk_frozen BK101.out 0
      have hfz5_1 := blk_frozen BK101.out 1
      have hfz5_2 := blk_frozen BK101.out 2
      go_wp2
      go_meet
      case rel => exact ⟨_, ((a0_1 == 0)), (by first | rfl | (simp; done) | (simp [*]; done)), H', ⟨by first | omega | exact Nat.le_refl _⟩, ⟨by (with_reducible repeat (first | refine blk_drewN ?_ _ | refine blk_drew ?_ | refine blk_alloc ?_ _)); exact BK101.out⟩, ⟨F2_⟩⟩
    · rw [if_neg c4] at H
      have c4b0 : (a0_0 == 1) = false := beq_eq_false_iff_ne.mpr c4
      have c4b1 : (a0_0 != 1) = true := bne_iff_ne.mpr c4
      (first | rw [c4b0] | (simp only [i64_w, i32_w]; rw [c4b0]) | skip)
      have H' := Aside0.mk H
      clear H
      have hcz6_0 : w3.cell? ⟨gb101, 0, none⟩ = some (.int .i64 a0_0) := (blk_cell BK101.out 0).trans rfl
      have hcz6_1 : w3.cell? ⟨gb101, 1, none⟩ = some (.int .i64 a0_1) := (blk_cell BK101.out 1).trans rfl
      have hcz6_2 : w3.cell? ⟨gb101, 2, none⟩ = some (.slice A0_2 l0_2.length c0_2) := (blk_cell BK101.out 2).trans rfl
      have hfz6_0 := blk_frozen BK101.out 0
      have hfz6_1 := blk_frozen BK101.out 1
      have hfz6_2 := blk_frozen BK101.out 2
      go_wp2
      go_meet
      case rel => exact ⟨_, (false), (by first | rfl | (simp; done) | (simp [*]; done)), H', ⟨by first | omega | exact Nat.le_refl _⟩, ⟨by (with_reducible repeat (first | refine blk_drewN ?_ _ | refine blk_drew ?_ | refine blk_alloc ?_ _)); exact BK101.out⟩, ⟨F2_⟩⟩
  case rest =>
    clear HC2
    try clear p2
    try clear c4
    try clear c4b0
    try clear c4b1
    try clear hcz5_0
    try clear hcz5_1
    try clear hcz5_2
    try clear hcz6_0
    try clear hcz6_1
    try clear hcz6_2
    try clear hfz5_0
    try clear hfz5_1
    try clear hfz5_2
    try clear hfz6_0
    try clear hfz6_1
    try clear hfz6_2
    obtain ⟨kq, x13_1, rfl, HA, HJ1, BK101, HB⟩ := hcut
    cases kq with
    | zero => exact absurd HA.out (by simp [dunnageref22_bytes.j0])
    | succ kj1 =>
      have H := HA.out
      clear HA
      simp only [dunnageref22_bytes.j0] at H
      by_cases c7 : x13_1 = true
      · subst c7
        have H1 : ((dunnageref04_Moves.f kj1 l0_2).bind fun bt102 => ((some (([1] : List Int) : List Int)).bind fun y106 => (if y106.length + bt102.1.length < 17592186044416 then ((dunnageref02_Put.f kj1 (y106 ++ bt102.1)).bind fun t112 => (some (t112, bt102.2))) else (none)))) = some (r1, r2) := by rw [if_pos rfl] at H; exact H
        clear H
        have H := H1
        clear H1
        replace H := Option.bind_eq_some_iff.mp H
        obtain ⟨⟨t102, t103⟩, A80, H⟩ := H
        replace H : ((some (([1] : List Int) : List Int)).bind fun y106 => (if y106.length + t102.length < 17592186044416 then ((dunnageref02_Put.f kj1 (y106 ++ t102)).bind fun t112 => (some (t112, t103))) else (none))) = some (r1, r2) := H
        have A8 := Aside0.mk A80
        clear A80
        obtain ⟨y106, hy106⟩ : ∃ y_ : List Int, y_ = (([1] : List Int)) := ⟨_, rfl⟩
        replace H : (if y106.length + t102.length < 17592186044416 then ((dunnageref02_Put.f kj1 (y106 ++ t102)).bind fun t112 => (some (t112, t103))) else (none)) = some (r1, r2) := by first | (rw [hy106]; with_reducible exact H) | (have H2_ := (Option.bind_some _ _).symm.trans H; rw [hy106]; with_reducible exact H2_) | (have H2_ := (Option.bind_some _ _).symm.trans H; with_reducible exact H2_) | with_reducible exact H | (rw [hy106]; exact H) | exact H
        have Ny106 := Aside0.mk hy106
        clear hy106
        by_cases c9 : y106.length + t102.length < 17592186044416
        · rw [if_pos c9] at H
          have LMc9 := Aside0.mk c9
          clear c9
          obtain ⟨y109, hy109⟩ : ∃ y_ : List Int, y_ = (y106 ++ t102) := ⟨_, rfl⟩
          replace H : ((dunnageref02_Put.f kj1 y109).bind fun t112 => (some (t112, t103))) = some (r1, r2) := by first | (rw [hy109]; with_reducible exact H) | (have H2_ := (Option.bind_some _ _).symm.trans H; rw [hy109]; with_reducible exact H2_) | (have H2_ := (Option.bind_some _ _).symm.trans H; with_reducible exact H2_) | with_reducible exact H | (rw [hy109]; exact H) | exact H
          have Ny109 := Aside0.mk hy109
          clear hy109
          replace H := Option.bind_eq_some_iff.mp H
          obtain ⟨t112, A100, H⟩ := H
          replace H : (some (t112, t103)) = some (r1, r2) := H
          have A10 := Aside0.mk A100
          clear A100
          simp only [Option.some.injEq, Prod.mk.injEq] at H
          obtain ⟨rfl, rfl⟩ := H
          have hcz11_0 : wc.cell? ⟨gb101, 0, none⟩ = some (.int .i64 a0_0) := (blk_cell BK101.out 0).trans rfl
          have hcz11_1 : wc.cell? ⟨gb101, 1, none⟩ = some (.int .i64 a0_1) := (blk_cell BK101.out 1).trans rfl
          have hcz11_2 : wc.cell? ⟨gb101, 2, none⟩ = some (.slice A0_2 l0_2.length c0_2) := (blk_cell BK101.out 2).trans rfl
          have hfz11_0 := blk_frozen BK101.out 0
          have hfz11_1 := blk_frozen BK101.out 1
          have hfz11_2 := blk_frozen BK101.out 2
          go_wp2_with (first | ((with_reducible refine gate_callee (f := 120) rfl ?_); refine goesL_ (some 17) rfl rfl Try.func120 (by kernel_rfl) rfl #[.slice A0_2 l0_2.length c0_2] rfl F7_ ?_; (with_reducible refine (dunnageref04_Moves.calls kj1 _ _ l0_2 t102 t103 _ ?side1 ?side2 A8.out).mono ?_); (case side1 => repeat (first | exact (Kd.C_below HR0_2.out HB.out) | (with_reducible refine Kd.C_alloc ?_ _) | (with_reducible refine Kd.C_drewN ?_ _) | (with_reducible refine Kd.C_drew ?_))); (case side2 => exact HC0_2.out); rintro e w12 ⟨v104, rfl, ho0, hb⟩; refine ⟨_, rfl, ?_⟩; have n0_ := Aside0.mk (Kd.R_lower ho0 (below_size F1_)); have n1_ := Aside0.mk (blk_below (g := gb101) (o := .cells #[.int .i64 a0_0, .int .i64 a0_1, .slice A0_2 l0_2.length c0_2] 60 (0, 0)) F3_ hb); have n2_ := Aside0.mk (below_step F1_ hb); clear BK101; clear HB; have HO105 := n0_; have BK101 := n1_; have HB := n2_; clear n0_ n1_ n2_; (try clear hb); (try clear hb2); (try clear hk); (try clear hi); (try clear ho0)) | ((with_reducible refine gate_dst (N := 20) rfl ?_); (try (refine gate_guard (by rfl) ?_; dsimp only)); refine Kd.R_lit (Kd.int .u64) _ 31 ?hg (N := 20) ?hd (xs := ([1] : List Int)) (inner := [.int .u64 1]) (ok := fun _ => True) (okp := fun _ => True) ?hr ?hp (fun _ hk => hk) trivial (Below.refl _ _) (Nat.le_refl _) (by simp) ?_; (case hd => rfl); (case hg => rfl); (case hr => first | (go_simp; done) | (go_simp; rfl)); (case hp => exact (Reps.one (show Kd.M (Kd.int .u64) _ _ _ 1 [.int .u64 1] from rfl) (Reps.none _ _))); intro v107 w13 ho14 hb hg_ hnew_; clear hg_ hnew_; (first | rw [← Ny106.out] at ho14 | (simp only [Int.reduceToNat] at ho14; rw [← Ny106.out] at ho14)); have n0_ := Aside0.mk (Kd.R_elder' F6_ (Kd.R_base ho14) hb); have n1_ := Aside0.mk (Kd.R_lower (Kd.R_new' ho14 (Kd.R_lt F6_)) (below_size F1_)); have n2_ := Aside0.mk (blk_below (g := gb101) (o := .cells #[.int .i64 a0_0, .int .i64 a0_1, .slice A0_2 l0_2.length c0_2] 60 (0, 0)) F3_ hb); have n3_ := Aside0.mk (below_step F1_ hb); clear HO105; clear BK101; clear HB; have HO105 := n0_; have HO108 := n1_; have BK101 := n2_; have HB := n3_; clear n0_ n1_ n2_ n3_; clear hb ho14; obtain ⟨Ao16, co16, eo16⟩ := Kd.R_slice HO105.out; subst eo16) | ((with_reducible refine gate_builtin (b := .append) (xs := #[.tmp 20, .tmp 21]) rfl ?_); (try (refine gate_guard (by rfl) ?_; dsimp only)); at_builtin; refine Kd.R_append_rows (Kd.int .u64) (w0 := w) w.heap.size rfl (.tmp 20) (.tmp 21) 112 31 (.int .u64 0) 8 rfl Try.underlying112 info31 rfl (by decide) (by omega) v107 y106 t102 _ _ _ (fun k_ => some k_ ≠ (.slice Ao16 t102.length co16 : Value).ownBlock) (fun _ => False) rfl rfl ?aO ?aR (fun _ _ h => h) (fun _ h => h.elim) ?aF ?aB ?aS ?aL ?_; (case aR => repeat (first | exact (Kd.R_reads' HO105.out).2.2 | (with_reducible refine Kd.C_alloc ?_ _) | (with_reducible refine Kd.C_drewN ?_ _) | (with_reducible refine Kd.C_drew ?_))); (case aB => exact F1_); (case aF => exact (fun k_ hk => Kd.fresh' (Kd.R_lt F6_) k_ hk)); (case aO => exact (by (with_reducible repeat (first | apply Kd.R_alloc | apply Kd.R_drewN | apply Kd.R_drew)); exact Kd.R_mono HO108.out (fun _ hk => hk.2))); (case aS => exact (below_size F1_)); (case aL => have := LMc9.out; omega); intro v110 w15 ho hb hg hat; rw [← Ny109.out] at ho; have n0_ := Aside0.mk (blk_grown (g := gb101) (o := .cells #[.int .i64 a0_0, .int .i64 a0_1, .slice A0_2 l0_2.length c0_2] 60 (0, 0)) F3_ hg (Kd.R_ne HO108.out BK101.out (by decide))); have n1_ := Aside0.mk (Kd.R_after (ok := (fun _ => True)) F6_ hg hat); have n2_ := Aside0.mk (hb); have n3_ := Aside0.mk (ho); clear BK101; clear HO105; clear HB; clear HO108; have BK101 := n0_; have HO105 := n1_; have HB := n2_; have HO111 := n3_; clear n0_ n1_ n2_ n3_; clear ho hb hg hat; obtain ⟨Ao17, co17, eo17⟩ := Kd.R_slice HO111.out; subst eo17) | ((with_reducible refine gate_callee (f := 74) rfl ?_); refine goesL_ (some 23) rfl rfl Try.func74 (by kernel_rfl) rfl #[.slice Ao17 y109.length co17] rfl F7_ ?_; (with_reducible refine (dunnageref02_Put.calls kj1 _ _ y109 t112 _ ?side1 ?side2 A10.out).mono ?_); (case side1 => repeat (first | exact (Kd.R_reads' HO111.out).2.2 | (with_reducible refine Kd.C_alloc ?_ _) | (with_reducible refine Kd.C_drewN ?_ _) | (with_reducible refine Kd.C_drew ?_))); (case side2 => exact (Kd.R_reads' HO111.out).2.1); rintro e w18 ⟨v113, rfl, ho0, hb⟩; refine ⟨_, rfl, ?_⟩; have n0_ := Aside0.mk (Kd.R_below F6_ hb); have n1_ := Aside0.mk (Kd.R_below (by (with_reducible repeat (first | apply Kd.R_alloc | apply Kd.R_drewN | apply Kd.R_drew)); exact HO111.out) hb); have n2_ := Aside0.mk (Kd.R_lower ho0 (below_size F1_)); have n3_ := Aside0.mk (blk_below (g := gb101) (o := .cells #[.int .i64 a0_0, .int .i64 a0_1, .slice A0_2 l0_2.length c0_2] 60 (0, 0)) F3_ hb); have n4_ := Aside0.mk (below_step F1_ hb); clear HO105; clear HO111; clear BK101; clear HB; have HO105 := n0_; have HO111 := n1_; have HO114 := n2_; have BK101 := n3_; have HB := n4_; clear n0_ n1_ n2_ n3_ n4_; (try clear hb); (try clear hb2); (try clear hk); (try clear hi); (try clear ho0)))
          go_ret2
          exact ⟨_, F4_, by (with_reducible repeat (first | apply Kd.R_alloc | apply Kd.R_drewN | apply Kd.R_drew)); exact HO114.out, F2_⟩
        · rw [if_neg c9] at H
          exact absurd H (by simp)
      · replace c7 := Bool.eq_false_iff.mpr c7
        subst c7
        have H1 : (if a0_0 < 2 then (some (([] : List Int), false)) else (if a0_0 > 4 then (some (([] : List Int), false)) else (if a0_1 < 1 then (some (([] : List Int), false)) else (if a0_1 > 40 then (some (([] : List Int), false)) else (if (l0_2.length : Int) = 0 then ((dunnageref02_Put.f kj1 (([IntKind.u64.wrap (a0_0), IntKind.u64.wrap (a0_1)] : List Int))).bind fun t118 => (some (t118, true))) else (some (([] : List Int), false))))))) = some (r1, r2) := by rw [if_neg (show ¬ (false = true) by decide)] at H; exact H
        clear H
        have H := H1
        clear H1
        by_cases c19 : a0_0 < 2
        · rw [if_pos c19] at H
          have c19b0 : decide (a0_0 < 2) = true := decide_eq_true c19
          clear c19
          simp only [Option.some.injEq, Prod.mk.injEq] at H
          obtain ⟨rfl, rfl⟩ := H
          have hcz20_0 : wc.cell? ⟨gb101, 0, none⟩ = some (.int .i64 a0_0) := (blk_cell BK101.out 0).trans rfl
          have hcz20_1 : wc.cell? ⟨gb101, 1, none⟩ = some (.int .i64 a0_1) := (blk_cell BK101.out 1).trans rfl
          have hcz20_2 : wc.cell? ⟨gb101, 2, none⟩ = some (.slice A0_2 l0_2.length c0_2) := (blk_cell BK101.out 2).trans rfl
          have hfz20_0 := blk_frozen BK101.out 0
          have hfz20_1 := blk_frozen BK101.out 1
          have hfz20_2 := blk_frozen BK101.out 2
          go_wp2
          go_ret2
          exact ⟨_, F4_, F5_, F2_⟩
        · rw [if_neg c19] at H
          have c19b0 : decide (a0_0 < 2) = false := decide_eq_false c19
          clear c19
          by_cases c21 : a0_0 > 4
          · rw [if_pos c21] at H
            have c21b0 : decide (4 < a0_0) = true := decide_eq_true c21
            clear c21
            simp only [Option.some.injEq, Prod.mk.injEq] at H
            obtain ⟨rfl, rfl⟩ := H
            have hcz22_0 : wc.cell? ⟨gb101, 0, none⟩ = some (.int .i64 a0_0) := (blk_cell BK101.out 0).trans rfl
            have hcz22_1 : wc.cell? ⟨gb101, 1, none⟩ = some (.int .i64 a0_1) := (blk_cell BK101.out 1).trans rfl
            have hcz22_2 : wc.cell? ⟨gb101, 2, none⟩ = some (.slice A0_2 l0_2.length c0_2) := (blk_cell BK101.out 2).trans rfl
            have hfz22_0 := blk_frozen BK101.out 0
            have hfz22_1 := blk_frozen BK101.out 1
            have hfz22_2 := blk_frozen BK101.out 2
            go_wp2
            go_ret2
            exact ⟨_, F4_, F5_, F2_⟩
          · rw [if_neg c21] at H
            have c21b0 : decide (4 < a0_0) = false := decide_eq_false c21
            clear c21
            by_cases c23 : a0_1 < 1
            · rw [if_pos c23] at H
              have c23b0 : decide (a0_1 < 1) = true := decide_eq_true c23
              clear c23
              simp only [Option.some.injEq, Prod.mk.injEq] at H
              obtain ⟨rfl, rfl⟩ := H
              have hcz24_0 : wc.cell? ⟨gb101, 0, none⟩ = some (.int .i64 a0_0) := (blk_cell BK101.out 0).trans rfl
              have hcz24_1 : wc.cell? ⟨gb101, 1, none⟩ = some (.int .i64 a0_1) := (blk_cell BK101.out 1).trans rfl
              have hcz24_2 : wc.cell? ⟨gb101, 2, none⟩ = some (.slice A0_2 l0_2.length c0_2) := (blk_cell BK101.out 2).trans rfl
              have hfz24_0 := blk_frozen BK101.out 0
              have hfz24_1 := blk_frozen BK101.out 1
              have hfz24_2 := blk_frozen BK101.out 2
              go_wp2
              go_ret2
              exact ⟨_, F4_, F5_, F2_⟩
            · rw [if_neg c23] at H
              have c23b0 : decide (a0_1 < 1) = false := decide_eq_false c23
              clear c23
              by_cases c25 : a0_1 > 40
              · rw [if_pos c25] at H
                have c25b0 : decide (40 < a0_1) = true := decide_eq_true c25
                clear c25
                simp only [Option.some.injEq, Prod.mk.injEq] at H
                obtain ⟨rfl, rfl⟩ := H
                have hcz26_0 : wc.cell? ⟨gb101, 0, none⟩ = some (.int .i64 a0_0) := (blk_cell BK101.out 0).trans rfl
                have hcz26_1 : wc.cell? ⟨gb101, 1, none⟩ = some (.int .i64 a0_1) := (blk_cell BK101.out 1).trans rfl
                have hcz26_2 : wc.cell? ⟨gb101, 2, none⟩ = some (.slice A0_2 l0_2.length c0_2) := (blk_cell BK101.out 2).trans rfl
                have hfz26_0 := blk_frozen BK101.out 0
                have hfz26_1 := blk_frozen BK101.out 1
                have hfz26_2 := blk_frozen BK101.out 2
                go_wp2
                go_ret2
                exact ⟨_, F4_, F5_, F2_⟩
              · rw [if_neg c25] at H
                have c25b0 : decide (40 < a0_1) = false := decide_eq_false c25
                clear c25
                by_cases c27 : (l0_2.length : Int) = 0
                · rw [if_pos c27] at H
                  have c27b0 : ((l0_2.length : Int) == 0) = true := beq_iff_eq.mpr c27
                  have c27b1 : ((l0_2.length : Int) != 0) = false := bne_eq_false_iff_eq.mpr c27
                  clear c27
                  obtain ⟨y115, hy115⟩ : ∃ y_ : List Int, y_ = (([IntKind.u64.wrap (a0_0), IntKind.u64.wrap (a0_1)] : List Int)) := ⟨_, rfl⟩
                  replace H : ((dunnageref02_Put.f kj1 y115).bind fun t118 => (some (t118, true))) = some (r1, r2) := by first | (rw [hy115]; with_reducible exact H) | (have H2_ := (Option.bind_some _ _).symm.trans H; rw [hy115]; with_reducible exact H2_) | (have H2_ := (Option.bind_some _ _).symm.trans H; with_reducible exact H2_) | with_reducible exact H | (rw [hy115]; exact H) | exact H
                  have Ny115 := Aside0.mk hy115
                  clear hy115
                  replace H := Option.bind_eq_some_iff.mp H
                  obtain ⟨t118, A280, H⟩ := H
                  replace H : (some (t118, true)) = some (r1, r2) := H
                  have A28 := Aside0.mk A280
                  clear A280
                  simp only [Option.some.injEq, Prod.mk.injEq] at H
                  obtain ⟨rfl, rfl⟩ := H
                  have hcz29_0 : wc.cell? ⟨gb101, 0, none⟩ = some (.int .i64 a0_0) := (blk_cell BK101.out 0).trans rfl
                  have hcz29_1 : wc.cell? ⟨gb101, 1, none⟩ = some (.int .i64 a0_1) := (blk_cell BK101.out 1).trans rfl
                  have hcz29_2 : wc.cell? ⟨gb101, 2, none⟩ = some (.slice A0_2 l0_2.length c0_2) := (blk_cell BK101.out 2).trans rfl
                  have hfz29_0 := blk_frozen BK101.out 0
                  have hfz29_1 := blk_frozen BK101.out 1
                  have hfz29_2 := blk_frozen BK101.out 2
                  go_wp2_with (first | ((with_reducible refine gate_dst (N := 55) rfl ?_); (try (refine gate_guard (by rfl) ?_; dsimp only)); refine Kd.R_lit (Kd.int .u64) _ 31 ?hg (N := 55) ?hd (xs := ([IntKind.u64.wrap (a0_0), IntKind.u64.wrap (a0_1)] : List Int)) (inner := [.int .u64 (IntKind.u64.wrap (a0_0)), .int .u64 (IntKind.u64.wrap (a0_1))]) (ok := fun _ => True) (okp := fun _ => True) ?hr ?hp (fun _ hk => hk) trivial (Below.refl _ _) (Nat.le_refl _) (by simp) ?_; (case hd => rfl); (case hg => rfl); (case hr => first | (go_simp; done) | (go_simp; rfl)); (case hp => exact (Reps.one (show Kd.M (Kd.int .u64) _ _ _ (IntKind.u64.wrap (a0_0)) [.int .u64 (IntKind.u64.wrap (a0_0))] from rfl) (Reps.one (show Kd.M (Kd.int .u64) _ _ _ (IntKind.u64.wrap (a0_1)) [.int .u64 (IntKind.u64.wrap (a0_1))] from rfl) (Reps.none _ _)))); intro v116 w30 ho31 hb hg_ hnew_; clear hg_ hnew_; (first | rw [← Ny115.out] at ho31 | (simp only [Int.reduceToNat] at ho31; rw [← Ny115.out] at ho31)); have n0_ := Aside0.mk (Kd.R_lower ho31 (below_size F1_)); have n1_ := Aside0.mk (blk_below (g := gb101) (o := .cells #[.int .i64 a0_0, .int .i64 a0_1, .slice A0_2 l0_2.length c0_2] 60 (0, 0)) F3_ hb); have n2_ := Aside0.mk (below_step F1_ hb); clear BK101; clear HB; have HO117 := n0_; have BK101 := n1_; have HB := n2_; clear n0_ n1_ n2_; clear hb ho31; obtain ⟨Ao32, co32, eo32⟩ := Kd.R_slice HO117.out; subst eo32) | ((with_reducible refine gate_callee (f := 74) rfl ?_); refine goesL_ (some 56) rfl rfl Try.func74 (by kernel_rfl) rfl #[.slice Ao32 y115.length co32] rfl F7_ ?_; (with_reducible refine (dunnageref02_Put.calls kj1 _ _ y115 t118 _ ?side1 ?side2 A28.out).mono ?_); (case side1 => repeat (first | exact (Kd.R_reads' HO117.out).2.2 | (with_reducible refine Kd.C_alloc ?_ _) | (with_reducible refine Kd.C_drewN ?_ _) | (with_reducible refine Kd.C_drew ?_))); (case side2 => exact (Kd.R_reads' HO117.out).2.1); rintro e w33 ⟨v119, rfl, ho0, hb⟩; refine ⟨_, rfl, ?_⟩; have n0_ := Aside0.mk (Kd.R_below (by (with_reducible repeat (first | apply Kd.R_alloc | apply Kd.R_drewN | apply Kd.R_drew)); exact HO117.out) hb); have n1_ := Aside0.mk (Kd.R_lower ho0 (below_size F1_)); have n2_ := Aside0.mk (blk_below (g := gb101) (o := .cells #[.int .i64 a0_0, .int .i64 a0_1, .slice A0_2 l0_2.length c0_2] 60 (0, 0)) F3_ hb); have n3_ := Aside0.mk (below_step F1_ hb); clear HO117; clear BK101; clear HB; have HO117 := n0_; have HO120 := n1_; have BK101 := n2_; have HB := n3_; clear n0_ n1_ n2_ n3_; (try clear hb); (try clear hb2); (try clear hk); (try clear hi); (try clear ho0)))
                  go_ret2
                  exact ⟨_, F4_, by (with_reducible repeat (first | apply Kd.R_alloc | apply Kd.R_drewN | apply Kd.R_drew)); exact HO120.out, F2_⟩
                · rw [if_neg c27] at H
                  have c27b0 : ((l0_2.length : Int) == 0) = false := beq_eq_false_iff_ne.mpr c27
                  have c27b1 : ((l0_2.length : Int) != 0) = true := bne_iff_ne.mpr c27
                  have c27b2 : ¬ (l0_2 = []) := fun h_ => c27 (by rw [h_]; rfl)
                  simp only [Option.some.injEq, Prod.mk.injEq] at H
                  obtain ⟨rfl, rfl⟩ := H
                  have hcz34_0 : wc.cell? ⟨gb101, 0, none⟩ = some (.int .i64 a0_0) := (blk_cell BK101.out 0).trans rfl
                  have hcz34_1 : wc.cell? ⟨gb101, 1, none⟩ = some (.int .i64 a0_1) := (blk_cell BK101.out 1).trans rfl
                  have hcz34_2 : wc.cell? ⟨gb101, 2, none⟩ = some (.slice A0_2 l0_2.length c0_2) := (blk_cell BK101.out 2).trans rfl
                  have hfz34_0 := blk_frozen BK101.out 0
                  have hfz34_1 := blk_frozen BK101.out 1
                  have hfz34_2 := blk_frozen BK101.out 2
                  go_wp2
                  go_ret2
                  exact ⟨_, F4_, F5_, F2_⟩

end Go.Proofs.Ytppfkbigeknedaa.Q
