import Derived.Test.YtppfkbigeknedaaKQ0
import Derived.Test.YtppfkbigeknedaaKQdunnageref02All
import Derived.Test.YtppfkbigeknedaaKQdunnageref02Get
import Derived.Test.YtppfkbigeknedaaKQdunnageref04ReadMoves
namespace Go.Proofs.Ytppfkbigeknedaa.Q
open Go.RowKit Go.Proofs.YtppfkbigeknedaaW.PrintWords Go.Proofs.YtppfkbigeknedaaW.PrintLast Go.Proofs.YtppfkbigeknedaaW.PrintMore
attribute [local go_sem] max2_int min2_int max_two min_two max_three min_three max_four min_four   -- for this text's walks alone
set_option linter.unusedVariables false
set_option linter.unusedSimpArgs false

attribute [local go_sem] eqe_ii eqe_nn eqe_ni eqe_nni
namespace FoldQdunnageref22read
theorem F1_ {p : Prop} (h : p := by (with_reducible repeat (first | refine blk_drewN ?_ _ | refine blk_drew ?_ | refine blk_alloc ?_ _)); refine blk_put (cs := #[.int .i64 0, .int .i64 0, .slice none 0 0]) ?_ 2 _ rfl; (with_reducible repeat (first | refine blk_drewN ?_ _ | refine blk_drew ?_ | refine blk_alloc ?_ _)); refine blk_put (cs := #[.int .i64 0, .int .i64 0, .slice none 0 0]) ?_ 1 _ rfl; (with_reducible repeat (first | refine blk_drewN ?_ _ | refine blk_drew ?_ | refine blk_alloc ?_ _)); refine blk_put (cs := #[.int .i64 0, .int .i64 0, .slice none 0 0]) ?_ 0 _ rfl; (with_reducible repeat (first | refine blk_drewN ?_ _ | refine blk_drew ?_ | refine blk_alloc ?_ _)); exact BK101.out) : p := h
theorem F2_ {p : Prop} (h : p := by repeat (first | (with_reducible first | exact HB.out | apply below_alloc | apply pw_below_drewN | apply below_drew1 | refine below_set ?_ GE101.out) | exact HB.out)) : p := h
theorem F3_ {p : Prop} (h : p := by repeat (first | (with_reducible first | exact HB.out | apply below_alloc | apply pw_below_drewN | apply below_drew1 | refine below_set ?_ GE101.out) | exact HB.out)) : p := h
theorem F4_ {p : Prop} (h : p := by repeat (first | (with_reducible first | exact HB.out | apply below_alloc | apply pw_below_drewN | apply below_drew1) | exact HB.out)) : p := h
theorem F5_ {p : Prop} (h : p := by first | (with_reducible assumption) | assumption) : p := h
theorem F6_ {p : Prop} (h : p := by first | exact Kd.own_blk (Kd.R_ne HO_10.out BK101.out (by decide)) | (rw [add_block]; exact Kd.own_blk (Kd.R_ne HO_10.out BK101.out (by decide))) | (show (Addr.add _ _).block ≠ _; rw [add_block]; exact Kd.own_blk (Kd.R_ne HO_10.out BK101.out (by decide))) | (dsimp only; exact Kd.own_blk (Kd.R_ne HO_10.out BK101.out (by decide)))) : p := h
theorem F7_ {p : Prop} (h : p := by first | exact Kd.own_blk (Kd.R_ne HO_4.out BK101.out (by decide)) | (rw [add_block]; exact Kd.own_blk (Kd.R_ne HO_4.out BK101.out (by decide))) | (show (Addr.add _ _).block ≠ _; rw [add_block]; exact Kd.own_blk (Kd.R_ne HO_4.out BK101.out (by decide))) | (dsimp only; exact Kd.own_blk (Kd.R_ne HO_4.out BK101.out (by decide)))) : p := h
theorem F8_ {p : Prop} (h : p := by first | exact Kd.R_nil _ _ _ _ _ | exact Kd.N_nil _ _ _ _ _ | exact Kd.V_nil _ _ _ _ _ | exact Kd.Q_nil _ _ _ _ _ | exact Kd.S_nil _ _ _ _ _) : p := h
theorem F9_ {p : Prop} (h : p := by (with_reducible repeat (first | refine blk_drewN ?_ _ | refine blk_drew ?_ | refine blk_alloc ?_ _)); exact BK101.out) : p := h
theorem F10_ {p : Prop} (h : p := by first | rfl | (simp [errW_none, errW_some] <;> rfl) | (simp [*, errW_none, errW_some] <;> rfl)) : p := h
theorem F11_ {p : Prop} (h : p := by (with_reducible repeat (first | apply Kd.R_alloc | apply Kd.R_drewN | apply Kd.R_drew)); exact Kd.R_mono HO106.out (fun _ hk => hk.2)) : p := h
theorem F12_ {p : Prop} (h : p := by (with_reducible repeat (first | apply Kd.R_alloc | apply Kd.R_drewN | apply Kd.R_drew)); exact Kd.R_mono HO118.out (fun _ hk => hk.2)) : p := h
theorem F13_ {p : Prop} (h : p := by (with_reducible repeat (first | refine blk_drewN ?_ _ | refine blk_drew ?_ | refine blk_alloc ?_ _)); exact BK101.out) : p := h
theorem F14_ {p : Prop} (h : p := by repeat (first | exact (Kd.C_below HR0.out HB.out) | (with_reducible refine Kd.C_alloc ?_ _) | (with_reducible refine Kd.C_drewN ?_ _) | (with_reducible refine Kd.C_drew ?_))) : p := h
theorem F15_ {p : Prop} (h : p := by (try simp only [List.map_toArray, List.map_cons, List.map_nil]); first | done | rfl | (simp only [List.length_drop, List.length_take]; rfl)) : p := h
theorem F16_ {p : Prop} (h : p := by (try simp only [List.map_toArray, List.map_cons, List.map_nil]); first | done | (rw [show (l0.drop (t103 : Int).toNat).length = (l0.length - t103.toNat) from List.length_drop] <;> rfl) | rfl | (simp only [List.length_drop, List.length_take]; rfl)) : p := h
theorem F17_ {p : Prop} (h : p := by (with_reducible repeat (first | apply Kd.R_alloc | apply Kd.R_drewN | apply Kd.R_drew)); exact HO106.out) : p := h
end FoldQdunnageref22read
open FoldQdunnageref22read
def dunnageref22_read.j0 : Nat → List Int → List Int → Bool → Option (Int × Int × (List (S130)) × Bool)
  | 0, _, _, _ => none
  | k + 1, x4, x10, x62 => if x62 = true then (some (0, 0, ([] : List (S130)), false)) else (if 0 < (x10.length : Int) then (if (rd x10 0) < 1 then (some (0, 0, ([] : List (S130)), false)) else (if (rd x10 0) > 40 then (some (0, 0, ([] : List (S130)), false)) else (if 0 < (x4.length : Int) then (some (wrap64 (rd x4 0), wrap64 (rd x10 0), ([] : List (S130)), true)) else (none)))) else (none))
def dunnageref22_read.f (k : Nat) (l0 : List Int) : Option (Int × Int × (List (S130)) × Bool) := (dunnageref02_Get.f k l0 1).bind fun bt102 => (if bt102.2.2 ≥ 0 then (some (0, 0, ([] : List (S130)), false)) else (if 0 < (bt102.1.length : Int) then (if (rd bt102.1 0) = 1 then (if 0 ≤ bt102.2.1 then (if bt102.2.1 ≤ (l0.length : Int) then ((dunnageref04_ReadMoves.f k (l0.drop (bt102.2.1 : Int).toNat)).bind fun bt109 => (some (1, 0, bt109.1, (bt109.2.1 == 0)))) else (none)) else (none)) else (if 0 ≤ bt102.2.1 then (if bt102.2.1 ≤ (l0.length : Int) then ((dunnageref02_All.f k (l0.drop (bt102.2.1 : Int).toNat)).bind fun bt115 => (if bt115.2 ≥ 0 then (dunnageref22_read.j0 k bt102.1 bt115.1 true) else (if (bt115.1.length : Int) = 1 then (if (rd bt102.1 0) < 2 then (dunnageref22_read.j0 k bt102.1 bt115.1 true) else (dunnageref22_read.j0 k bt102.1 bt115.1 (decide ((rd bt102.1 0) > 4)))) else (dunnageref22_read.j0 k bt102.1 bt115.1 true)))) else (none)) else (none))) else (none)))
theorem dunnageref22_read.mono_l : ∀ k, (∀ y0 y1 y2, LeO (dunnageref22_read.j0 k y0 y1 y2) (dunnageref22_read.j0 (k + 1) y0 y1 y2))
  | 0 => fun _ _ _ r h => by simp [dunnageref22_read.j0] at h
  | k + 1 => by
    have ih0 := dunnageref22_read.mono_l k
    · intro y0 y1 y2
      unfold dunnageref22_read.j0
      repeat' first
      | (with_reducible exact ih0 _ _ _)
      | (with_reducible exact dunnageref02_All.mono _ _)
      | (with_reducible exact dunnageref02_Get.mono _ _ _)
      | (with_reducible exact dunnageref04_ReadMoves.mono _ _)
      | (with_reducible exact LeO.refl _)
      | (with_reducible exact LeO.none _)
      | (with_reducible refine LeO.ite ?_ ?_)
      | (with_reducible refine LeO.bind ?_ (fun _ => ?_))
      | exact ih0 _ _ _
      | exact dunnageref02_All.mono _ _
      | exact dunnageref02_Get.mono _ _ _
      | exact dunnageref04_ReadMoves.mono _ _
      | exact LeO.none _
      | refine LeO.ite ?_ ?_
      | refine LeO.bind ?_ (fun _ => ?_)
theorem dunnageref22_read.mono : ∀ a0 k, LeO (dunnageref22_read.f k a0) (dunnageref22_read.f (k + 1) a0) := by
  intro a0 k
  have ih0 := dunnageref22_read.mono_l k
  unfold dunnageref22_read.f
  repeat' first
      | (with_reducible exact ih0 _ _ _)
      | (with_reducible exact dunnageref02_All.mono _ _)
      | (with_reducible exact dunnageref02_Get.mono _ _ _)
      | (with_reducible exact dunnageref04_ReadMoves.mono _ _)
      | (with_reducible exact LeO.refl _)
      | (with_reducible exact LeO.none _)
      | (with_reducible refine LeO.ite ?_ ?_)
      | (with_reducible refine LeO.bind ?_ (fun _ => ?_))
      | exact ih0 _ _ _
      | exact dunnageref02_All.mono _ _
      | exact dunnageref02_Get.mono _ _ _
      | exact dunnageref04_ReadMoves.mono _ _
      | exact LeO.none _
      | refine LeO.ite ?_ ?_
      | refine LeO.bind ?_ (fun _ => ?_)
def dunnageref22_read.T12 : Bool × List (List Nat × List Nat) := (true, [([], []), ([0], [0]), ([1], [1]), ([2], [2]), ([], []), ([4], [4]), ([5], [5]), ([6], [6]), ([3, 7], [3, 7]), ([8, 0, 1, 2, 3, 4, 5, 6, 7, 8], [8]), ([9, 0, 1, 2, 3, 4, 5, 6, 7, 8, 9], [])])
def dunnageref22_read.B12 : List Nat := [0, 1, 3, 7, 0, 16, 48, 112, 255, 511, 1023]
theorem dunnageref22_read.tab12 : rtab .any (opsOf Try.f128 12) = dunnageref22_read.T12 := by kernel_rfl
theorem dunnageref22_read.bits12 : waitsOk dunnageref22_read.T12.2 dunnageref22_read.B12 = true := by kernel_rfl
set_option maxHeartbeats 8000000 in
set_option maxRecDepth 100000 in
theorem dunnageref22_read.calls (k : Nat) (A0 : Option Addr) (c0 : Nat) (l0 : List Int) (r1 : Int) (r2 : Int) (r3 : List (S130)) (r4 : Bool) (w : World) (hr0 : Kd.C (Kd.int .u8) w A0 l0.length l0) (hc0 : l0.length ≤ c0) (h : dunnageref22_read.f k l0 = some (r1, r2, r3, r4)) :
    Calls Try.prog 128 #[.slice A0 l0.length c0] w fun e w' => ∃ v2_ : Value, e = .returned (.tuple #[.agg #[.int .i64 r1, .int .i64 r2, v2_], .bool r4]) ∧ Kd.R k130 130 w' w.heap.size (fun _ => True) v2_ r3 ∧ Below w.heap.size w w' := by
  have hu60 := Try.underlying60
  have HR0 := Aside0.mk hr0
  have HC0 := Aside0.mk hc0
  clear hr0 hc0
  have HB := Aside0.mk (Below.refl w.heap.size w)
  have H : ((dunnageref02_Get.f k l0 1).bind fun bt102 => (if bt102.2.2 ≥ 0 then (some (0, 0, ([] : List (S130)), false)) else (if 0 < (bt102.1.length : Int) then (if (rd bt102.1 0) = 1 then (if 0 ≤ bt102.2.1 then (if bt102.2.1 ≤ (l0.length : Int) then ((dunnageref04_ReadMoves.f k (l0.drop (bt102.2.1 : Int).toNat)).bind fun bt109 => (some (1, 0, bt109.1, (bt109.2.1 == 0)))) else (none)) else (none)) else (if 0 ≤ bt102.2.1 then (if bt102.2.1 ≤ (l0.length : Int) then ((dunnageref02_All.f k (l0.drop (bt102.2.1 : Int).toNat)).bind fun bt115 => (if bt115.2 ≥ 0 then (dunnageref22_read.j0 k bt102.1 bt115.1 true) else (if (bt115.1.length : Int) = 1 then (if (rd bt102.1 0) < 2 then (dunnageref22_read.j0 k bt102.1 bt115.1 true) else (dunnageref22_read.j0 k bt102.1 bt115.1 (decide ((rd bt102.1 0) > 4)))) else (dunnageref22_read.j0 k bt102.1 bt115.1 true)))) else (none)) else (none))) else (none)))) = some (r1, r2, r3, r4) := h
  clear h
  replace H := Option.bind_eq_some_iff.mp H
  obtain ⟨⟨t102, t103, t104⟩, A20, H⟩ := H
  replace H : (if t104 ≥ 0 then (some (0, 0, ([] : List (S130)), false)) else (if 0 < (t102.length : Int) then (if (rd t102 0) = 1 then (if 0 ≤ t103 then (if t103 ≤ (l0.length : Int) then ((dunnageref04_ReadMoves.f k (l0.drop (t103 : Int).toNat)).bind fun bt109 => (some (1, 0, bt109.1, (bt109.2.1 == 0)))) else (none)) else (none)) else (if 0 ≤ t103 then (if t103 ≤ (l0.length : Int) then ((dunnageref02_All.f k (l0.drop (t103 : Int).toNat)).bind fun bt115 => (if bt115.2 ≥ 0 then (dunnageref22_read.j0 k t102 bt115.1 true) else (if (bt115.1.length : Int) = 1 then (if (rd t102 0) < 2 then (dunnageref22_read.j0 k t102 bt115.1 true) else (dunnageref22_read.j0 k t102 bt115.1 (decide ((rd t102 0) > 4)))) else (dunnageref22_read.j0 k t102 bt115.1 true)))) else (none)) else (none))) else (none))) = some (r1, r2, r3, r4) := H
  have A2 := Aside0.mk A20
  clear A20
  by_cases c3 : t104 ≥ 0
  · rw [if_pos c3] at H
    have c3b0 : decide (0 ≤ t104) = true := decide_eq_true c3
    clear c3
    simp only [Option.some.injEq, Prod.mk.injEq] at H
    obtain ⟨rfl, rfl, rfl, rfl⟩ := H
    go_enter Try.func128, Try.ntmps128
    go_wp2_with (first | ((with_reducible refine gate_dst (N := 2) rfl ?_); (try (refine gate_guard (by rfl) ?_; dsimp only)); refine box_event ?hg (N := 2) ?hd (cs := #[.int .i64 0, .int .i64 0, .slice none 0 0]) (t := 60) ?hr ?_; (case hd => rfl); (case hg => rfl); (case hr => first | (go_simp; done) | (go_simp; rfl)); intro gb101 hg w4 hbox hb; have n0_ := Aside0.mk (below_step F4_ hb); have n1_ := Aside0.mk (hbox); have n2_ := Aside0.mk ((by rw [hg]; exact (below_size F4_) : w.heap.size ≤ gb101)); have n3_ := Aside0.mk ((by rw [hg]; exact (below_size F4_) : w.heap.size ≤ gb101)); clear HB; have HB := n0_; have BK101 := n1_; have GW101 := n2_; have GE101 := n3_; clear n0_ n1_ n2_ n3_; clear hb hbox hg) | ((with_reducible refine gate_callee (f := 127) rfl ?_); refine goesL_ (some 14) rfl rfl Try.func127 (by kernel_rfl) rfl #[.slice A0 l0.length c0, .int .i64 1] rfl F15_ ?_; (with_reducible refine (dunnageref02_Get.calls k _ _ l0 1 t102 t103 t104 _ ?side1 ?side2 A2.out).mono ?_); (case side1 => exact F14_); (case side2 => exact HC0.out); rintro e w5 ⟨v105, rfl, ho0, hb⟩; refine ⟨_, rfl, ?_⟩; have n0_ := Aside0.mk (Kd.R_lower ho0 (below_size F2_)); have n1_ := Aside0.mk (blk_below (g := gb101) (o := .cells #[.int .i64 0, .int .i64 0, .slice none 0 0] 60 (0, 0)) F9_ hb); have n2_ := Aside0.mk (below_step F2_ hb); clear BK101; clear HB; have HO106 := n0_; have BK101 := n1_; have HB := n2_; clear n0_ n1_ n2_; (try clear hb); (try clear hb2); (try clear hk); (try clear hi); (try clear ho0); have hcz6_0 : w5.cell? ⟨gb101, 0, none⟩ = some (.int .i64 0) := (blk_cell BK101.out 0).trans rfl; have hcz6_1 : w5.cell? ⟨gb101, 1, none⟩ = some (.int .i64 0) := (blk_cell BK101.out 1).trans rfl; have hcz6_2 : w5.cell? ⟨gb101, 2, none⟩ = some (.slice none 0 0) := (blk_cell BK101.out 2).trans rfl; have hfz6_0 := blk_frozen BK101.out 0; have hfz6_1 := blk_frozen BK101.out 1; have hfz6_2 := blk_frozen BK101.out 2))
    refine bodyPost_ret (results_ct rfl _ _ gb101 60 #[.int .i64 0, .int .i64 0, .slice none 0 0] (0, 0) _ rfl F1_ Try.underlying60 rfl (by kernel_rfl)) rfl ?_
    exact ⟨_, F10_, F8_, F3_⟩
  · rw [if_neg c3] at H
    have c3b0 : decide (0 ≤ t104) = false := decide_eq_false c3
    clear c3
    by_cases c7 : 0 < (t102.length : Int)
    · rw [if_pos c7] at H
      have c7b0 : decide (0 < (t102.length : Int)) = true := decide_eq_true c7
      have c7b1 : decide (0 < t102.length) = true := decide_eq_true (by omega)
      clear c7
      by_cases c8 : (rd t102 0) = 1
      · rw [if_pos c8] at H
        have c8b0 : ((rd t102 0) == 1) = true := beq_iff_eq.mpr c8
        have c8b1 : ((rd t102 0) != 1) = false := bne_eq_false_iff_eq.mpr c8
        clear c8
        by_cases c9 : 0 ≤ t103
        · rw [if_pos c9] at H
          have c9b0 := eq_true c9
          have c9b1 : decide (0 ≤ t103) = true := decide_eq_true c9
          clear c9
          by_cases c10 : t103 ≤ (l0.length : Int)
          · rw [if_pos c10] at H
            have c10b0 := eq_true c10
            have c10b1 : decide (t103 ≤ (l0.length : Int)) = true := decide_eq_true c10
            clear c10
            replace H := Option.bind_eq_some_iff.mp H
            obtain ⟨⟨t109, t110, t111⟩, A110, H⟩ := H
            replace H : (some (1, 0, t109, (t110 == 0))) = some (r1, r2, r3, r4) := H
            have A11 := Aside0.mk A110
            clear A110
            simp only [Option.some.injEq, Prod.mk.injEq] at H
            obtain ⟨rfl, rfl, rfl, rfl⟩ := H
            go_enter Try.func128, Try.ntmps128
            go_wp2_with (first | ((with_reducible refine gate_dst (N := 2) rfl ?_); (try (refine gate_guard (by rfl) ?_; dsimp only)); refine box_event ?hg (N := 2) ?hd (cs := #[.int .i64 0, .int .i64 0, .slice none 0 0]) (t := 60) ?hr ?_; (case hd => rfl); (case hg => rfl); (case hr => first | (go_simp; done) | (go_simp; rfl)); intro gb101 hg w12 hbox hb; have n0_ := Aside0.mk (below_step F4_ hb); have n1_ := Aside0.mk (hbox); have n2_ := Aside0.mk ((by rw [hg]; exact (below_size F4_) : w.heap.size ≤ gb101)); have n3_ := Aside0.mk ((by rw [hg]; exact (below_size F4_) : w.heap.size ≤ gb101)); clear HB; have HB := n0_; have BK101 := n1_; have GW101 := n2_; have GE101 := n3_; clear n0_ n1_ n2_ n3_; clear hb hbox hg) | ((with_reducible refine gate_callee (f := 127) rfl ?_); refine goesL_ (some 14) rfl rfl Try.func127 (by kernel_rfl) rfl #[.slice A0 l0.length c0, .int .i64 1] rfl F15_ ?_; (with_reducible refine (dunnageref02_Get.calls k _ _ l0 1 t102 t103 t104 _ ?side1 ?side2 A2.out).mono ?_); (case side1 => exact F14_); (case side2 => exact HC0.out); rintro e w13 ⟨v105, rfl, ho0, hb⟩; refine ⟨_, rfl, ?_⟩; have n0_ := Aside0.mk (Kd.R_lower ho0 (below_size F2_)); have n1_ := Aside0.mk (blk_below (g := gb101) (o := .cells #[.int .i64 0, .int .i64 0, .slice none 0 0] 60 (0, 0)) F9_ hb); have n2_ := Aside0.mk (below_step F2_ hb); clear BK101; clear HB; have HO106 := n0_; have BK101 := n1_; have HB := n2_; clear n0_ n1_ n2_; (try clear hb); (try clear hb2); (try clear hk); (try clear hi); (try clear ho0); obtain ⟨Ao14, co14, eo14⟩ := Kd.R_slice HO106.out; subst eo14; have p107 : 0 ≤ (0 : Int) := (by omega); have q107 : 0 < (t102.length : Int) := of_decide_eq_true F5_; obtain ⟨ad107, e107, hx107_0⟩ := Kd.at_int (Kd.R_reads' HO106.out).2.2 0 p107 q107; cases e107; have qi107 : (0 < t102.length) = True := eq_true (by omega); (try rw [show ((0 : Int)).toNat = 0 from rfl] at hx107_0); (try rw [Addr.add_zero'] at hx107_0); replace p107 := eq_true p107; replace q107 := eq_true q107; obtain ⟨i015, hi015, _, hsz15, _⟩ := info_parts info5; obtain ⟨A15, hcut15, hA15, hC15⟩ := print_drop_of (P := Try.prog) (Value.int .u8) 0 46 5 .i64 Try.underlying46 hi015 hsz15 A0 c0 l0 t103 (of_decide_eq_true F5_) (of_decide_eq_true F5_) HC0.out; have HR108 := Aside0.mk (Kd.C_of_reads (h1 := fun _ => rfl) (hA15 _ (Kd.reads_of_C HR0.out))); have HC108 := Aside0.mk hC15; clear hA15 hC15 hi015 hsz15) | ((with_reducible refine gate_callee (f := 145) rfl ?_); refine goesL_ (some 29) rfl rfl Try.func145 (by kernel_rfl) rfl #[.slice A15 (l0.drop (t103 : Int).toNat).length (c0 - t103.toNat)] rfl F16_ ?_; (with_reducible refine (dunnageref04_ReadMoves.calls k _ _ (l0.drop (t103 : Int).toNat) t109 t110 t111 _ ?side1 ?side2 A11.out).mono ?_); (case side1 => repeat (first | exact (Kd.C_below HR108.out HB.out) | (with_reducible refine Kd.C_alloc ?_ _) | (with_reducible refine Kd.C_drewN ?_ _) | (with_reducible refine Kd.C_drew ?_))); (case side2 => exact HC108.out); rintro e w16 ⟨v112, rfl, ho0, hb⟩; refine ⟨_, rfl, ?_⟩; have n0_ := Aside0.mk (Kd.R_below F17_ hb); have n1_ := Aside0.mk (Kd.R_lower ho0 (below_size F2_)); have n2_ := Aside0.mk (blk_below (g := gb101) (o := .cells #[.int .i64 0, .int .i64 0, .slice none 0 0] 60 (0, 0)) F9_ hb); have n3_ := Aside0.mk (below_step F2_ hb); clear HO106; clear BK101; clear HB; have HO106 := n0_; have HO113 := n1_; have BK101 := n2_; have HB := n3_; clear n0_ n1_ n2_ n3_; (try clear hb); (try clear hb2); (try clear hk); (try clear hi); (try clear ho0); obtain ⟨Ao17, co17, eo17⟩ := Kd.R_slice HO113.out; subst eo17; have hcz18_0 : w16.cell? ⟨gb101, 0, none⟩ = some (.int .i64 0) := (blk_cell BK101.out 0).trans rfl; have hcz18_1 : w16.cell? ⟨gb101, 1, none⟩ = some (.int .i64 0) := (blk_cell BK101.out 1).trans rfl; have hcz18_2 : w16.cell? ⟨gb101, 2, none⟩ = some (.slice none 0 0) := (blk_cell BK101.out 2).trans rfl; have hfz18_0 := blk_frozen BK101.out 0; have hfz18_1 := blk_frozen BK101.out 1; have hfz18_2 := blk_frozen BK101.out 2))
            refine bodyPost_ret (results_ct rfl _ _ gb101 60 #[.int .i64 1, .int .i64 0, .slice Ao17 t109.length co17] (0, 0) _ rfl (by (with_reducible repeat (first | refine blk_drewN ?_ _ | refine blk_drew ?_ | refine blk_alloc ?_ _)); refine blk_put (cs := #[.int .i64 1, .int .i64 0, .slice none 0 0]) ?_ 2 _ rfl; (with_reducible repeat (first | refine blk_drewN ?_ _ | refine blk_drew ?_ | refine blk_alloc ?_ _)); refine blk_put (cs := #[.int .i64 1, .int .i64 0, .slice none 0 0]) ?_ 1 _ rfl; (with_reducible repeat (first | refine blk_drewN ?_ _ | refine blk_drew ?_ | refine blk_alloc ?_ _)); refine blk_put (cs := #[.int .i64 0, .int .i64 0, .slice none 0 0]) ?_ 0 _ rfl; (with_reducible repeat (first | refine blk_drewN ?_ _ | refine blk_drew ?_ | refine blk_alloc ?_ _)); exact BK101.out) Try.underlying60 rfl (by kernel_rfl)) rfl ?_
            exact ⟨_, F10_, by (with_reducible repeat (first | apply Kd.R_alloc | apply Kd.R_drewN | apply Kd.R_drew)); exact Kd.R_mono (Kd.R_far (p := ⟨gb101, 2, none⟩) (Kd.R_far (p := ⟨gb101, 1, none⟩) (Kd.R_far (p := ⟨gb101, 0, none⟩) (Kd.R_types HO113.out BK101.out (by decide)) (fun _ hk => hk.2) (.int .i64 1)) (fun _ hk => hk.2) (.int .i64 0)) (fun _ hk => hk.2) (.slice Ao17 t109.length co17)) (fun _ hk => trivial), F3_⟩
          · rw [if_neg c10] at H
            exact absurd H (by simp)
        · rw [if_neg c9] at H
          exact absurd H (by simp)
      · rw [if_neg c8] at H
        have c8b0 : ((rd t102 0) == 1) = false := beq_eq_false_iff_ne.mpr c8
        have c8b1 : ((rd t102 0) != 1) = true := bne_iff_ne.mpr c8
        by_cases c19 : 0 ≤ t103
        · rw [if_pos c19] at H
          have c19b0 := eq_true c19
          have c19b1 : decide (0 ≤ t103) = true := decide_eq_true c19
          clear c19
          by_cases c20 : t103 ≤ (l0.length : Int)
          · rw [if_pos c20] at H
            have c20b0 := eq_true c20
            have c20b1 : decide (t103 ≤ (l0.length : Int)) = true := decide_eq_true c20
            clear c20
            replace H := Option.bind_eq_some_iff.mp H
            obtain ⟨⟨t115, t116⟩, A210, H⟩ := H
            replace H : (if t116 ≥ 0 then (dunnageref22_read.j0 k t102 t115 true) else (if (t115.length : Int) = 1 then (if (rd t102 0) < 2 then (dunnageref22_read.j0 k t102 t115 true) else (dunnageref22_read.j0 k t102 t115 (decide ((rd t102 0) > 4)))) else (dunnageref22_read.j0 k t102 t115 true))) = some (r1, r2, r3, r4) := H
            have A21 := Aside0.mk A210
            clear A210
            have HC22 := Aside0.mk H
            clear H
            go_enter Try.func128, Try.ntmps128
            go_upto_region 8 with (first | ((with_reducible refine gate_dst (N := 2) rfl ?_); (try (refine gate_guard (by rfl) ?_; dsimp only)); refine box_event ?hg (N := 2) ?hd (cs := #[.int .i64 0, .int .i64 0, .slice none 0 0]) (t := 60) ?hr ?_; (case hd => rfl); (case hg => rfl); (case hr => first | (go_simp; done) | (go_simp; rfl)); intro gb101 hg w23 hbox hb; have n0_ := Aside0.mk (below_step F4_ hb); have n1_ := Aside0.mk (hbox); have n2_ := Aside0.mk ((by rw [hg]; exact (below_size F4_) : w.heap.size ≤ gb101)); have n3_ := Aside0.mk ((by rw [hg]; exact (below_size F4_) : w.heap.size ≤ gb101)); clear HB; have HB := n0_; have BK101 := n1_; have GW101 := n2_; have GE101 := n3_; clear n0_ n1_ n2_ n3_; clear hb hbox hg) | ((with_reducible refine gate_callee (f := 127) rfl ?_); refine goesL_ (some 14) rfl rfl Try.func127 (by kernel_rfl) rfl #[.slice A0 l0.length c0, .int .i64 1] rfl F15_ ?_; (with_reducible refine (dunnageref02_Get.calls k _ _ l0 1 t102 t103 t104 _ ?side1 ?side2 A2.out).mono ?_); (case side1 => exact F14_); (case side2 => exact HC0.out); rintro e w24 ⟨v105, rfl, ho0, hb⟩; refine ⟨_, rfl, ?_⟩; have n0_ := Aside0.mk (Kd.R_lower ho0 (below_size F2_)); have n1_ := Aside0.mk (blk_below (g := gb101) (o := .cells #[.int .i64 0, .int .i64 0, .slice none 0 0] 60 (0, 0)) F9_ hb); have n2_ := Aside0.mk (below_step F2_ hb); clear BK101; clear HB; have HO106 := n0_; have BK101 := n1_; have HB := n2_; clear n0_ n1_ n2_; (try clear hb); (try clear hb2); (try clear hk); (try clear hi); (try clear ho0); obtain ⟨Ao25, co25, eo25⟩ := Kd.R_slice HO106.out; subst eo25; have p107 : 0 ≤ (0 : Int) := (by omega); have q107 : 0 < (t102.length : Int) := of_decide_eq_true F5_; obtain ⟨ad107, e107, hx107_0⟩ := Kd.at_int (Kd.R_reads' HO106.out).2.2 0 p107 q107; cases e107; have qi107 : (0 < t102.length) = True := eq_true (by omega); (try rw [show ((0 : Int)).toNat = 0 from rfl] at hx107_0); (try rw [Addr.add_zero'] at hx107_0); replace p107 := eq_true p107; replace q107 := eq_true q107; obtain ⟨i026, hi026, _, hsz26, _⟩ := info_parts info5; obtain ⟨A26, hcut26, hA26, hC26⟩ := print_drop_of (P := Try.prog) (Value.int .u8) 0 46 5 .i64 Try.underlying46 hi026 hsz26 A0 c0 l0 t103 (of_decide_eq_true F5_) (of_decide_eq_true F5_) HC0.out; have HR114 := Aside0.mk (Kd.C_of_reads (h1 := fun _ => rfl) (hA26 _ (Kd.reads_of_C HR0.out))); have HC114 := Aside0.mk hC26; clear hA26 hC26 hi026 hsz26) | ((with_reducible refine gate_callee (f := 146) rfl ?_); refine goesL_ (some 41) rfl rfl Try.func146 (by kernel_rfl) rfl #[.slice A26 (l0.drop (t103 : Int).toNat).length (c0 - t103.toNat)] rfl F16_ ?_; (with_reducible refine (dunnageref02_All.calls k _ _ (l0.drop (t103 : Int).toNat) t115 t116 _ ?side1 ?side2 A21.out).mono ?_); (case side1 => repeat (first | exact (Kd.C_below HR114.out HB.out) | (with_reducible refine Kd.C_alloc ?_ _) | (with_reducible refine Kd.C_drewN ?_ _) | (with_reducible refine Kd.C_drew ?_))); (case side2 => exact HC114.out); rintro e w27 ⟨v117, rfl, ho0, hb⟩; refine ⟨_, rfl, ?_⟩; have n0_ := Aside0.mk (Kd.R_elder' F17_ (Kd.R_base ho0) hb); have n1_ := Aside0.mk (Kd.R_lower (Kd.R_new' ho0 (Kd.R_lt F17_)) (below_size F2_)); have n2_ := Aside0.mk (blk_below (g := gb101) (o := .cells #[.int .i64 0, .int .i64 0, .slice none 0 0] 60 (0, 0)) F9_ hb); have n3_ := Aside0.mk (below_step F2_ hb); clear HO106; clear BK101; clear HB; have HO106 := n0_; have HO118 := n1_; have BK101 := n2_; have HB := n3_; clear n0_ n1_ n2_ n3_; (try clear hb); (try clear hb2); (try clear hk); (try clear hi); (try clear ho0)))
            (try simp only [Act.put, List.setIfInBounds_toArray, List.set_cons_zero, List.set_cons_succ])
            go_cut [62] (fun v62 wc => ∃ (kq : Nat) (x62_21 : Bool), v62 = .bool x62_21 ∧ Aside0 (dunnageref22_read.j0 kq t102 t115 x62_21 = some (r1, r2, r3, r4)) ∧ Aside0 (kq ≤ k) ∧ Aside0 (Kd.R (Kd.int .u64) 31 wc w.heap.size (fun k_ => some k_ ≠ (v117 : Value).ownBlock) (.slice (some ad107) t102.length co25) t102) ∧ Aside0 (Kd.R (Kd.int .u64) 31 wc w.heap.size (fun k_ => some k_ ≠ ((.slice (some ad107) t102.length co25) : Value).ownBlock) v117 t115) ∧ Aside0 (wc.heap[gb101]? = some (.cells #[.int .i64 0, .int .i64 0, (.slice none 0 0)] 60 (0, 0))) ∧ Aside0 (Below w.heap.size w wc))
            case first =>
              have H := HC22.out
              clear HC22
              by_cases c28 : t116 ≥ 0
              · rw [if_pos c28] at H
                have c28b0 : decide (0 ≤ t116) = true := decide_eq_true c28
                clear c28
                (first | rw [c28b0] | (simp only [i64_w, i32_w]; rw [c28b0]) | skip)
                have H' := Aside0.mk H
                clear H
                go_wp2
                go_meet
                case rel => exact ⟨_, (true), (by first | rfl | (simp; done) | (simp [*]; done)), H', ⟨by first | omega | exact Nat.le_refl _⟩, ⟨F11_⟩, ⟨F12_⟩, ⟨F13_⟩, ⟨F3_⟩⟩
              · rw [if_neg c28] at H
                have c28b0 : decide (0 ≤ t116) = false := decide_eq_false c28
                clear c28
                (first | rw [c28b0] | (simp only [i64_w, i32_w]; rw [c28b0]) | skip)
                by_cases c29 : (t115.length : Int) = 1
                · rw [if_pos c29] at H
                  have c29b0 : ((t115.length : Int) == 1) = true := beq_iff_eq.mpr c29
                  have c29b1 : ((t115.length : Int) != 1) = false := bne_eq_false_iff_eq.mpr c29
                  clear c29
                  by_cases c30 : (rd t102 0) < 2
                  · rw [if_pos c30] at H
                    have c30b0 : decide ((rd t102 0) < 2) = true := decide_eq_true c30
                    clear c30
                    have H' := Aside0.mk H
                    clear H
                    obtain ⟨Ao31, co31, eo31⟩ := Kd.R_slice HO118.out
                    subst eo31
                    have p119 : 0 ≤ (0 : Int) := (by omega)
                    have q119 : 0 < (t102.length : Int) := of_decide_eq_true F5_
                    obtain ⟨ad119, e119, hx119_0⟩ := Kd.at_int (Kd.R_reads' HO106.out).2.2 0 p119 q119
                    obtain rfl : ad107 = ad119 := (by injection e119)
                    have qi119 : (0 < t102.length) = True := eq_true (by omega)
                    (try rw [show ((0 : Int)).toNat = 0 from rfl] at hx119_0)
                    (try rw [Addr.add_zero'] at hx119_0)
                    replace p119 := eq_true p119
                    replace q119 := eq_true q119
                    go_wp2
                    go_meet
                    case rel => exact ⟨_, (true), (by first | rfl | (simp; done) | (simp [*]; done)), H', ⟨by first | omega | exact Nat.le_refl _⟩, ⟨F11_⟩, ⟨F12_⟩, ⟨F13_⟩, ⟨F3_⟩⟩
                  · rw [if_neg c30] at H
                    have c30b0 : decide ((rd t102 0) < 2) = false := decide_eq_false c30
                    clear c30
                    have H' := Aside0.mk H
                    clear H
                    obtain ⟨Ao32, co32, eo32⟩ := Kd.R_slice HO118.out
                    subst eo32
                    have p119 : 0 ≤ (0 : Int) := (by omega)
                    have q119 : 0 < (t102.length : Int) := of_decide_eq_true F5_
                    obtain ⟨ad119, e119, hx119_0⟩ := Kd.at_int (Kd.R_reads' HO106.out).2.2 0 p119 q119
                    obtain rfl : ad107 = ad119 := (by injection e119)
                    have qi119 : (0 < t102.length) = True := eq_true (by omega)
                    (try rw [show ((0 : Int)).toNat = 0 from rfl] at hx119_0)
                    (try rw [Addr.add_zero'] at hx119_0)
                    replace p119 := eq_true p119
                    replace q119 := eq_true q119
                    have p120 : 0 ≤ (0 : Int) := (by omega)
                    have q120 : 0 < (t102.length : Int) := of_decide_eq_true F5_
                    obtain ⟨ad120, e120, hx120_0⟩ := Kd.at_int (Kd.R_reads' HO106.out).2.2 0 p120 q120
                    obtain rfl : ad107 = ad120 := (by injection e120)
                    have qi120 : (0 < t102.length) = True := eq_true (by omega)
                    (try rw [show ((0 : Int)).toNat = 0 from rfl] at hx120_0)
                    (try rw [Addr.add_zero'] at hx120_0)
                    replace p120 := eq_true p120
                    replace q120 := eq_true q120
                    go_wp2
                    go_meet
                    case rel => exact ⟨_, (decide ((rd t102 0) > 4)), (by first | rfl | (simp; done) | (simp [*]; done)), H', ⟨by first | omega | exact Nat.le_refl _⟩, ⟨F11_⟩, ⟨F12_⟩, ⟨F13_⟩, ⟨F3_⟩⟩
                · rw [if_neg c29] at H
                  have c29b0 : ((t115.length : Int) == 1) = false := beq_eq_false_iff_ne.mpr c29
                  have c29b1 : ((t115.length : Int) != 1) = true := bne_iff_ne.mpr c29
                  have H' := Aside0.mk H
                  clear H
                  obtain ⟨Ao33, co33, eo33⟩ := Kd.R_slice HO118.out
                  subst eo33
                  go_wp2
                  go_meet
                  case rel => exact ⟨_, (true), (by first | rfl | (simp; done) | (simp [*]; done)), H', ⟨by first | omega | exact Nat.le_refl _⟩, ⟨F11_⟩, ⟨F12_⟩, ⟨F13_⟩, ⟨F3_⟩⟩
            case rest =>
              clear HC22
              try clear c1
              try clear p1
              try clear q1
              try clear hx1
              try clear qi1
              try clear c2
              try clear p2
              try clear c3
              try clear c3b0
              try clear c7
              try clear c7b0
              try clear c7b1
              try clear c8
              try clear c8b0
              try clear c8b1
              try clear c9
              try clear c9b0
              try clear c9b1
              try clear c10
              try clear c10b0
              try clear c10b1
              try clear p10
              try clear q10
              try clear hx10
              try clear qi10
              try clear p11
              try clear q11
              try clear hx11
              try clear qi11
              try clear c12
              try clear p12
              try clear q12
              try clear hx12
              try clear qi12
              try clear c14
              try clear c19
              try clear c19b0
              try clear c19b1
              try clear c20
              try clear c20b0
              try clear c20b1
              try clear c28
              try clear c28b0
              try clear c29
              try clear c29b0
              try clear c29b1
              try clear c30
              try clear c30b0
              try clear hcz18_0
              try clear hcz18_1
              try clear hcz18_2
              try clear hcz6_0
              try clear hcz6_1
              try clear hcz6_2
              try clear hfz18_0
              try clear hfz18_1
              try clear hfz18_2
              try clear hfz6_0
              try clear hfz6_1
              try clear hfz6_2
              try clear hx107_0
              try clear hx119_0
              try clear hx120_0
              try clear p107
              try clear p119
              try clear p120
              try clear q107
              try clear q119
              try clear q120
              obtain ⟨kq, x62_21, rfl, HA, HJ21, HO_4, HO_10, BK101, HB⟩ := hcut
              cases kq with
              | zero => exact absurd HA.out (by simp [dunnageref22_read.j0])
              | succ kj21 =>
                have H := HA.out
                clear HA
                simp only [dunnageref22_read.j0] at H
                by_cases c34 : x62_21 = true
                · subst c34
                  have H1 : (some (0, 0, ([] : List (S130)), false)) = some (r1, r2, r3, r4) := by rw [if_pos rfl] at H; exact H
                  clear H
                  have H := H1
                  clear H1
                  simp only [Option.some.injEq, Prod.mk.injEq] at H
                  obtain ⟨rfl, rfl, rfl, rfl⟩ := H
                  have hcz35_0 : wc.cell? ⟨gb101, 0, none⟩ = some (.int .i64 0) := (blk_cell BK101.out 0).trans rfl
                  have hcz35_1 : wc.cell? ⟨gb101, 1, none⟩ = some (.int .i64 0) := (blk_cell BK101.out 1).trans rfl
                  have hcz35_2 : wc.cell? ⟨gb101, 2, none⟩ = some (.slice none 0 0) := (blk_cell BK101.out 2).trans rfl
                  have hfz35_0 := blk_frozen BK101.out 0
                  have hfz35_1 := blk_frozen BK101.out 1
                  have hfz35_2 := blk_frozen BK101.out 2
                  go_wp2
                  refine bodyPost_ret (results_ct rfl _ _ gb101 60 #[.int .i64 0, .int .i64 0, .slice none 0 0] (0, 0) _ rfl F1_ Try.underlying60 rfl (by kernel_rfl)) rfl ?_
                  exact ⟨_, F10_, F8_, F3_⟩
                · replace c34 := Bool.eq_false_iff.mpr c34
                  subst c34
                  have H1 : (if 0 < (t115.length : Int) then (if (rd t115 0) < 1 then (some (0, 0, ([] : List (S130)), false)) else (if (rd t115 0) > 40 then (some (0, 0, ([] : List (S130)), false)) else (if 0 < (t102.length : Int) then (some (wrap64 (rd t102 0), wrap64 (rd t115 0), ([] : List (S130)), true)) else (none)))) else (none)) = some (r1, r2, r3, r4) := by rw [if_neg (show ¬ (false = true) by decide)] at H; exact H
                  clear H
                  have H := H1
                  clear H1
                  by_cases c36 : 0 < (t115.length : Int)
                  · rw [if_pos c36] at H
                    have c36b0 : decide (0 < (t115.length : Int)) = true := decide_eq_true c36
                    have c36b1 : decide (0 < t115.length) = true := decide_eq_true (by omega)
                    clear c36
                    by_cases c37 : (rd t115 0) < 1
                    · rw [if_pos c37] at H
                      have c37b0 : decide ((rd t115 0) < 1) = true := decide_eq_true c37
                      clear c37
                      simp only [Option.some.injEq, Prod.mk.injEq] at H
                      obtain ⟨rfl, rfl, rfl, rfl⟩ := H
                      obtain ⟨Ao38, co38, eo38⟩ := Kd.R_slice HO_10.out
                      subst eo38
                      have p121 : 0 ≤ (0 : Int) := (by omega)
                      have q121 : 0 < (t115.length : Int) := of_decide_eq_true F5_
                      obtain ⟨ad121, e121, hx121_0⟩ := Kd.at_int (Kd.R_reads' HO_10.out).2.2 0 p121 q121
                      cases e121
                      have qi121 : (0 < t115.length) = True := eq_true (by omega)
                      (try rw [show ((0 : Int)).toNat = 0 from rfl] at hx121_0)
                      (try rw [Addr.add_zero'] at hx121_0)
                      replace p121 := eq_true p121
                      replace q121 := eq_true q121
                      have hcz39_0 : wc.cell? ⟨gb101, 0, none⟩ = some (.int .i64 0) := (blk_cell BK101.out 0).trans rfl
                      have hcz39_1 : wc.cell? ⟨gb101, 1, none⟩ = some (.int .i64 0) := (blk_cell BK101.out 1).trans rfl
                      have hcz39_2 : wc.cell? ⟨gb101, 2, none⟩ = some (.slice none 0 0) := (blk_cell BK101.out 2).trans rfl
                      have hfz39_0 := blk_frozen BK101.out 0
                      have hfz39_1 := blk_frozen BK101.out 1
                      have hfz39_2 := blk_frozen BK101.out 2
                      go_wp2
                      refine bodyPost_ret (results_ct rfl _ _ gb101 60 #[.int .i64 0, .int .i64 0, .slice none 0 0] (0, 0) _ rfl F1_ Try.underlying60 rfl (by kernel_rfl)) rfl ?_
                      exact ⟨_, F10_, F8_, F3_⟩
                    · rw [if_neg c37] at H
                      have c37b0 : decide ((rd t115 0) < 1) = false := decide_eq_false c37
                      clear c37
                      by_cases c40 : (rd t115 0) > 40
                      · rw [if_pos c40] at H
                        have c40b0 : decide (40 < (rd t115 0)) = true := decide_eq_true c40
                        clear c40
                        simp only [Option.some.injEq, Prod.mk.injEq] at H
                        obtain ⟨rfl, rfl, rfl, rfl⟩ := H
                        obtain ⟨Ao41, co41, eo41⟩ := Kd.R_slice HO_10.out
                        subst eo41
                        have p121 : 0 ≤ (0 : Int) := (by omega)
                        have q121 : 0 < (t115.length : Int) := of_decide_eq_true F5_
                        obtain ⟨ad121, e121, hx121_0⟩ := Kd.at_int (Kd.R_reads' HO_10.out).2.2 0 p121 q121
                        cases e121
                        have qi121 : (0 < t115.length) = True := eq_true (by omega)
                        (try rw [show ((0 : Int)).toNat = 0 from rfl] at hx121_0)
                        (try rw [Addr.add_zero'] at hx121_0)
                        replace p121 := eq_true p121
                        replace q121 := eq_true q121
                        have p122 : 0 ≤ (0 : Int) := (by omega)
                        have q122 : 0 < (t115.length : Int) := of_decide_eq_true F5_
                        obtain ⟨ad122, e122, hx122_0⟩ := Kd.at_int (Kd.R_reads' HO_10.out).2.2 0 p122 q122
                        obtain rfl : ad121 = ad122 := (by injection e122)
                        have qi122 : (0 < t115.length) = True := eq_true (by omega)
                        (try rw [show ((0 : Int)).toNat = 0 from rfl] at hx122_0)
                        (try rw [Addr.add_zero'] at hx122_0)
                        replace p122 := eq_true p122
                        replace q122 := eq_true q122
                        have hcz42_0 : wc.cell? ⟨gb101, 0, none⟩ = some (.int .i64 0) := (blk_cell BK101.out 0).trans rfl
                        have hcz42_1 : wc.cell? ⟨gb101, 1, none⟩ = some (.int .i64 0) := (blk_cell BK101.out 1).trans rfl
                        have hcz42_2 : wc.cell? ⟨gb101, 2, none⟩ = some (.slice none 0 0) := (blk_cell BK101.out 2).trans rfl
                        have hfz42_0 := blk_frozen BK101.out 0
                        have hfz42_1 := blk_frozen BK101.out 1
                        have hfz42_2 := blk_frozen BK101.out 2
                        go_wp2
                        refine bodyPost_ret (results_ct rfl _ _ gb101 60 #[.int .i64 0, .int .i64 0, .slice none 0 0] (0, 0) _ rfl F1_ Try.underlying60 rfl (by kernel_rfl)) rfl ?_
                        exact ⟨_, F10_, F8_, F3_⟩
                      · rw [if_neg c40] at H
                        have c40b0 : decide (40 < (rd t115 0)) = false := decide_eq_false c40
                        clear c40
                        by_cases c43 : 0 < (t102.length : Int)
                        · rw [if_pos c43] at H
                          have c43b0 : decide (0 < (t102.length : Int)) = true := decide_eq_true c43
                          have c43b1 : decide (0 < t102.length) = true := decide_eq_true (by omega)
                          clear c43
                          simp only [Option.some.injEq, Prod.mk.injEq] at H
                          obtain ⟨rfl, rfl, rfl, rfl⟩ := H
                          obtain ⟨Ao44, co44, eo44⟩ := Kd.R_slice HO_10.out
                          subst eo44
                          have p121 : 0 ≤ (0 : Int) := (by omega)
                          have q121 : 0 < (t115.length : Int) := of_decide_eq_true F5_
                          obtain ⟨ad121, e121, hx121_0⟩ := Kd.at_int (Kd.R_reads' HO_10.out).2.2 0 p121 q121
                          cases e121
                          have qi121 : (0 < t115.length) = True := eq_true (by omega)
                          (try rw [show ((0 : Int)).toNat = 0 from rfl] at hx121_0)
                          (try rw [Addr.add_zero'] at hx121_0)
                          replace p121 := eq_true p121
                          replace q121 := eq_true q121
                          have p122 : 0 ≤ (0 : Int) := (by omega)
                          have q122 : 0 < (t115.length : Int) := of_decide_eq_true F5_
                          obtain ⟨ad122, e122, hx122_0⟩ := Kd.at_int (Kd.R_reads' HO_10.out).2.2 0 p122 q122
                          obtain rfl : ad121 = ad122 := (by injection e122)
                          have qi122 : (0 < t115.length) = True := eq_true (by omega)
                          (try rw [show ((0 : Int)).toNat = 0 from rfl] at hx122_0)
                          (try rw [Addr.add_zero'] at hx122_0)
                          replace p122 := eq_true p122
                          replace q122 := eq_true q122
                          try go_wp2
                          have n0_ := Aside0.mk (Kd.R_drew HO_4.out)
                          have n1_ := Aside0.mk (Kd.R_drew HO_10.out)
                          have n2_ := Aside0.mk (blk_drew BK101.out)
                          have n3_ := Aside0.mk (below_drew1 HB.out)
                          clear HO_4
                          clear HO_10
                          clear BK101
                          clear HB
                          have HO_4 := n0_
                          have HO_10 := n1_
                          have BK101 := n2_
                          have HB := n3_
                          clear n0_ n1_ n2_ n3_
                          have p123 : 0 ≤ (0 : Int) := (by omega)
                          have q123 : 0 < (t102.length : Int) := of_decide_eq_true F5_
                          obtain ⟨ad123, e123, hx123_0⟩ := Kd.at_int (Kd.R_reads' HO_4.out).2.2 0 p123 q123
                          obtain rfl : ad107 = ad123 := (by injection e123)
                          have qi123 : (0 < t102.length) = True := eq_true (by omega)
                          (try rw [show ((0 : Int)).toNat = 0 from rfl] at hx123_0)
                          (try rw [Addr.add_zero'] at hx123_0)
                          replace p123 := eq_true p123
                          replace q123 := eq_true q123
                          have p124 : 0 ≤ (0 : Int) := (by omega)
                          have q124 : 0 < (t115.length : Int) := of_decide_eq_true F5_
                          obtain ⟨ad124, e124, hx124_0⟩ := Kd.at_int (Kd.R_reads' HO_10.out).2.2 0 p124 q124
                          obtain rfl : ad121 = ad124 := (by injection e124)
                          have qi124 : (0 < t115.length) = True := eq_true (by omega)
                          (try rw [show ((0 : Int)).toNat = 0 from rfl] at hx124_0)
                          (try rw [Addr.add_zero'] at hx124_0)
                          replace p124 := eq_true p124
                          replace q124 := eq_true q124
                          refine start_ (n := 11) (S := fun w' => w'.cell? ad107 = some (.int .u64 (rd t102 0)) ∧ w'.cell? ad121 = some (.int .u64 (rd t115 0))) (ds := []) #[false, false, false, false, false, false, false, false, false, false, false] (by kernel_rfl) rfl rfl ⟨hx123_0, hx124_0⟩ (fun hHeld => ?_); refine with_tabW dunnageref22_read.tab12 dunnageref22_read.bits12 (fun HT_ HW_ => ?_)
                          generalize wc.drew = w45 at HO_4 HO_10 BK101 HB hx123_0 hx124_0 hHeld ⊢
                          refine pure_ (i := 0) (N := some 75) (v := ?_) (a' := ?_) #[true, false, false, false, false, false, false, false, false, false, false] rfl rfl (any_of HT_.out (by kernel_rfl)) (fun _ _ _ h => h) (Or.inl ⟨by rfl, ?_⟩) ?_ ?_
                          rotate_left
                          · intro w'
                            go_simp
                            with_reducible rfl
                          rotate_left
                          · simp only [Act.put, List.setIfInBounds_toArray, List.set_cons_zero, List.set_cons_succ, i64_w, i32_w]
                            rfl
                          refine pure_ (i := 1) (N := some 76) (v := ?_) (a' := ?_) #[true, true, false, false, false, false, false, false, false, false, false] rfl rfl (any_of HT_.out (by kernel_rfl)) (fun _ _ _ h => h) (Or.inl ⟨by rfl, ?_⟩) ?_ ?_
                          rotate_left
                          · intro w'
                            go_simp
                            with_reducible rfl
                          rotate_left
                          · simp only [Act.put, List.setIfInBounds_toArray, List.set_cons_zero, List.set_cons_succ, i64_w, i32_w]
                            rfl
                          refine pure_ (i := 4) (N := some 79) (v := ?_) (a' := ?_) #[true, true, false, false, true, false, false, false, false, false, false] rfl rfl (any_of HT_.out (by kernel_rfl)) (fun _ _ _ h => h) (Or.inl ⟨by rfl, ?_⟩) ?_ ?_
                          rotate_left
                          · intro w'
                            go_simp
                            with_reducible rfl
                          rotate_left
                          · simp only [Act.put, List.setIfInBounds_toArray, List.set_cons_zero, List.set_cons_succ, i64_w, i32_w]
                            rfl
                          refine pure_ (i := 5) (N := some 80) (v := ?_) (a' := ?_) #[true, true, false, false, true, true, false, false, false, false, false] rfl rfl (any_of HT_.out (by kernel_rfl)) (fun _ _ _ h => h) (Or.inl ⟨by rfl, ?_⟩) ?_ ?_
                          rotate_left
                          · intro w'
                            go_simp
                            with_reducible rfl
                          rotate_left
                          · simp only [Act.put, List.setIfInBounds_toArray, List.set_cons_zero, List.set_cons_succ, i64_w, i32_w]
                            rfl
                          refine take_ (i := 2) (N := some 77) (v := ?_) (a' := ?_) #[true, true, true, false, true, true, false, false, false, false, false] rfl rfl (take_ofW HT_.out HW_.out (by kernel_rfl)) (fun _ _ _ h => h) (Or.inl ⟨by rfl, ?_⟩) hHeld ?_ ?_
                          rotate_left
                          · rintro w' ⟨s0, s1⟩
                            go_simp
                            with_reducible rfl
                          rotate_left
                          · simp only [Act.put, List.setIfInBounds_toArray, List.set_cons_zero, List.set_cons_succ, i64_w, i32_w]
                            rfl
                          refine pure_ (i := 3) (N := some 78) (v := ?_) (a' := ?_) #[true, true, true, true, true, true, false, false, false, false, false] rfl rfl (any_of HT_.out (by kernel_rfl)) (fun _ _ _ h => h) (Or.inl ⟨by rfl, ?_⟩) ?_ ?_
                          rotate_left
                          · intro w'
                            go_simp
                            with_reducible rfl
                          rotate_left
                          · simp only [Act.put, List.setIfInBounds_toArray, List.set_cons_zero, List.set_cons_succ, i64_w, i32_w]
                            rfl
                          refine take_ (i := 6) (N := some 81) (v := ?_) (a' := ?_) #[true, true, true, true, true, true, true, false, false, false, false] rfl rfl (take_ofW HT_.out HW_.out (by kernel_rfl)) (fun _ _ _ h => h) (Or.inl ⟨by rfl, ?_⟩) hHeld ?_ ?_
                          rotate_left
                          · rintro w' ⟨s0, s1⟩
                            go_simp
                            with_reducible rfl
                          rotate_left
                          · simp only [Act.put, List.setIfInBounds_toArray, List.set_cons_zero, List.set_cons_succ, i64_w, i32_w]
                            rfl
                          refine pure_ (i := 7) (N := some 82) (v := ?_) (a' := ?_) #[true, true, true, true, true, true, true, true, false, false, false] rfl rfl (any_of HT_.out (by kernel_rfl)) (fun _ _ _ h => h) (Or.inl ⟨by rfl, ?_⟩) ?_ ?_
                          rotate_left
                          · intro w'
                            go_simp
                            with_reducible rfl
                          rotate_left
                          · simp only [Act.put, List.setIfInBounds_toArray, List.set_cons_zero, List.set_cons_succ, i64_w, i32_w]
                            rfl
                          refine pure_ (i := 8) (N := some 83) (v := ?_) (a' := ?_) #[true, true, true, true, true, true, true, true, true, false, false] rfl rfl (any_of HT_.out (by kernel_rfl)) (fun _ _ _ h => h) (Or.inl ⟨by rfl, ?_⟩) ?_ ?_
                          rotate_left
                          · intro w'
                            go_simp
                            with_reducible rfl
                          rotate_left
                          · simp only [Act.put, List.setIfInBounds_toArray, List.set_cons_zero, List.set_cons_succ, i64_w, i32_w]
                            rfl
                          refine one_ (i := 9) (N := none) #[true, true, true, true, true, true, true, true, true, true, false] rfl rfl (one_of HT_.out (by kernel_rfl)) (by decide) (fun K hK => ?_)
                          have hs46 : w45.cell? ⟨gb101, 0, none⟩ = some (.int .i64 0) := (blk_cell BK101.out 0).trans rfl
                          have hfs46 := blk_frozen BK101.out 0
                          have hs47 : w45.cell? ⟨gb101, 1, none⟩ = some (.int .i64 0) := (blk_cell BK101.out 1).trans rfl
                          have hfs47 := blk_frozen BK101.out 1
                          have hs48 : w45.cell? ⟨gb101, 2, none⟩ = some (.slice none 0 0) := (blk_cell BK101.out 2).trans rfl
                          have hfs48 := blk_frozen BK101.out 2
                          refine skip_ (w1 := ?_) (by rfl) rfl ?_ ?_
                          rotate_left
                          · go_simp
                            rfl
                          refine hK.out _ _ ⟨((cell_far (p := ⟨gb101, _, none⟩) F7_ _).trans (((cell_far (p := ⟨gb101, _, none⟩) F7_ _).trans (((cell_far (p := ⟨gb101, _, none⟩) F7_ _).trans (hHeld.1)))))), ((cell_far (p := ⟨gb101, _, none⟩) F6_ _).trans (((cell_far (p := ⟨gb101, _, none⟩) F6_ _).trans (((cell_far (p := ⟨gb101, _, none⟩) F6_ _).trans (hHeld.2))))))⟩ (fun hHeld => ?_)
                          clear hK K
                          refine pure_ (i := 10) (N := some 3) (v := ?_) (a' := ?_) #[true, true, true, true, true, true, true, true, true, true, true] rfl rfl (any_of HT_.out (by kernel_rfl)) (fun _ _ _ h => h) (Or.inl ⟨by rfl, ?_⟩) ?_ ?_
                          rotate_left
                          · intro w'
                            go_simp
                            with_reducible rfl
                          rotate_left
                          · simp only [Act.put, List.setIfInBounds_toArray, List.set_cons_zero, List.set_cons_succ, i64_w, i32_w]
                            rfl
                          refine done_ (done_of HT_.out (by kernel_rfl)) ?_
                          try go_wp2
                          refine bodyPost_ret (results_ct rfl _ _ gb101 60 #[.int .i64 (wrap64 (rd t102 0)), .int .i64 (wrap64 (rd t115 0)), .slice none 0 0] (0, 0) _ rfl (by (with_reducible repeat (first | refine blk_drewN ?_ _ | refine blk_drew ?_ | refine blk_alloc ?_ _)); refine blk_put (cs := #[.int .i64 (wrap64 (rd t102 0)), .int .i64 (wrap64 (rd t115 0)), .slice none 0 0]) ?_ 2 _ rfl; (with_reducible repeat (first | refine blk_drewN ?_ _ | refine blk_drew ?_ | refine blk_alloc ?_ _)); refine blk_put (cs := #[.int .i64 (wrap64 (rd t102 0)), .int .i64 0, .slice none 0 0]) ?_ 1 _ rfl; (with_reducible repeat (first | refine blk_drewN ?_ _ | refine blk_drew ?_ | refine blk_alloc ?_ _)); refine blk_put (cs := #[.int .i64 0, .int .i64 0, .slice none 0 0]) ?_ 0 _ rfl; (with_reducible repeat (first | refine blk_drewN ?_ _ | refine blk_drew ?_ | refine blk_alloc ?_ _)); exact BK101.out) Try.underlying60 rfl (by kernel_rfl)) rfl ?_
                          exact ⟨_, F10_, F8_, F3_⟩
                        · rw [if_neg c43] at H
                          exact absurd H (by simp)
                  · rw [if_neg c36] at H
                    exact absurd H (by simp)
          · rw [if_neg c20] at H
            exact absurd H (by simp)
        · rw [if_neg c19] at H
          exact absurd H (by simp)
    · rw [if_neg c7] at H
      exact absurd H (by simp)

end Go.Proofs.Ytppfkbigeknedaa.Q
