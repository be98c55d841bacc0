import Derived.Test.YtppfkbigeknedaaVQ0
namespace Go.Proofs.Ytppfkbigeknedaa.Q
open Go.RowKit Go.Proofs.YtppfkbigeknedaaW.PrintWords Go.Proofs.YtppfkbigeknedaaW.PrintLast Go.Proofs.YtppfkbigeknedaaW.PrintMore
attribute [local go_sem] max2_int min2_int max_two min_two max_three min_three max_four min_four   -- for this text's walks alone
set_option linter.unusedVariables false
set_option linter.unusedSimpArgs false

attribute [local go_sem] eqe_ii eqe_nn eqe_ni eqe_nni
namespace FoldQclusterWant
theorem F1_ {p : Prop} (h : p := by repeat (first | (with_reducible first | exact HB.out | apply below_alloc | apply pw_below_drewN | apply below_drew1 | refine below_set ?_ GE101.out | refine below_set ?_ GE102.out) | exact HB.out)) : p := h
theorem F2_ {p : Prop} (h : p := by (with_reducible repeat (first | refine blk_drewN ?_ _ | refine blk_drew ?_ | refine blk_alloc ?_ _)); exact BK101.out) : p := h
theorem F3_ {p : Prop} (h : p := by (with_reducible repeat (first | refine blk_drewN ?_ _ | refine blk_drew ?_ | refine blk_alloc ?_ _)); exact BK102.out) : p := h
theorem F4_ {p : Prop} (h : p := by repeat (first | (with_reducible first | exact HB.out | apply below_alloc | apply pw_below_drewN | apply below_drew1 | refine below_set ?_ GE101.out) | exact HB.out)) : p := h
theorem F5_ {p : Prop} (h : p := by repeat (first | (with_reducible first | exact HB.out | apply below_alloc | apply pw_below_drewN | apply below_drew1) | exact HB.out)) : p := h
theorem F6_ {p : Prop} (h : p := by repeat (first | (with_reducible first | exact HB.out | apply below_alloc | apply pw_below_drewN | apply below_drew1 | refine below_set ?_ GE101.out | refine below_set ?_ GE102.out | refine below_set ?_ GE104.out) | exact HB.out)) : p := h
end FoldQclusterWant
open FoldQclusterWant
def cluster_Want.l0 : Nat → Int → List (S185) → Int → Int → Option (Int × Int × Int × Int × Int × Bool × Bool)
  | 0, _, _, _, _ => none
  | k + 1, x1, x9, x10, x11 => if x11 < x10 then (if 0 ≤ x11 then (if x11 < (x9.length : Int) then (if ((rd_T185 x9 x11).f0) = x1 then (some ((rd_T185 x9 x11).f0, (rd_T185 x9 x11).f1.f0, (rd_T185 x9 x11).f1.f1, (rd_T185 x9 x11).f1.f2, (rd_T185 x9 x11).f1.f3, (rd_T185 x9 x11).f2, true)) else (cluster_Want.l0 k x1 x9 x10 (wrap64 (x11 + 1)))) else (none)) else (none)) else (some (0, 0, 0, 0, 0, false, false))
def cluster_Want.f (k : Nat) (l0_0 : List (S185)) (a0_1 : Int) (a0_2 : Int) (a1 : Int) : Option (Int × Int × Int × Int × Int × Bool × Bool) := cluster_Want.l0 k a1 l0_0 (l0_0.length : Int) 0
theorem cluster_Want.mono_l : ∀ k, (∀ y0 y1 y2 y3, LeO (cluster_Want.l0 k y0 y1 y2 y3) (cluster_Want.l0 (k + 1) y0 y1 y2 y3))
  | 0 => fun _ _ _ _ r h => by simp [cluster_Want.l0] at h
  | k + 1 => by
    have ih0 := cluster_Want.mono_l k
    · intro y0 y1 y2 y3
      unfold cluster_Want.l0
      repeat' first
      | (with_reducible exact ih0 _ _ _ _)
      | (with_reducible exact LeO.refl _)
      | (with_reducible exact LeO.none _)
      | (with_reducible refine LeO.ite ?_ ?_)
      | (with_reducible refine LeO.bind ?_ (fun _ => ?_))
      | exact ih0 _ _ _ _
      | exact LeO.none _
      | refine LeO.ite ?_ ?_
      | refine LeO.bind ?_ (fun _ => ?_)
theorem cluster_Want.mono : ∀ a0 a1 a2 a3 k, LeO (cluster_Want.f k a0 a1 a2 a3) (cluster_Want.f (k + 1) a0 a1 a2 a3) := by
  intro a0 a1 a2 a3 k
  have ih0 := cluster_Want.mono_l k
  unfold cluster_Want.f
  repeat' first
      | (with_reducible exact ih0 _ _ _ _)
      | (with_reducible exact LeO.refl _)
      | (with_reducible exact LeO.none _)
      | (with_reducible refine LeO.ite ?_ ?_)
      | (with_reducible refine LeO.bind ?_ (fun _ => ?_))
      | exact ih0 _ _ _ _
      | exact LeO.none _
      | refine LeO.ite ?_ ?_
      | refine LeO.bind ?_ (fun _ => ?_)
set_option maxHeartbeats 8000000 in
set_option maxRecDepth 100000 in
theorem cluster_Want.calls (k : Nat) (A0_0 : Option Addr) (c0_0 : Nat) (l0_0 : List (S185)) (a0_1 : Int) (a0_2 : Int) (a1 : Int) (r1 : Int) (r2 : Int) (r3 : Int) (r4 : Int) (r5 : Int) (r6 : Bool) (r7 : Bool) (w : World) (hr0_0 : Kd.C k185 w A0_0 l0_0.length l0_0) (hc0_0 : l0_0.length ≤ c0_0) (h : cluster_Want.f k l0_0 a0_1 a0_2 a1 = some (r1, r2, r3, r4, r5, r6, r7)) :
    Calls Try.prog 130 #[.agg #[.slice A0_0 l0_0.length c0_0, .int .i64 a0_1, .int .i64 a0_2], .int .i64 a1] w fun e w' => e = .returned (.tuple #[.agg #[.int .i64 r1, .int .u64 r2, .int .u64 r3, .int .u64 r4, .int .u64 r5, .bool r6], .bool r7]) ∧ Below w.heap.size w w' := by
  have hu99 := Try.underlying99
  have hu185 := Try.underlying185
  have HR0_0 := Aside0.mk hr0_0
  have HC0_0 := Aside0.mk hc0_0
  clear hr0_0 hc0_0
  have HB := Aside0.mk (Below.refl w.heap.size w)
  have H : (cluster_Want.l0 k a1 l0_0 (l0_0.length : Int) 0) = some (r1, r2, r3, r4, r5, r6, r7) := h
  clear h
  have H' := Aside0.mk H
  clear H
  go_enter Try.func130, Try.ntmps130
  go_wp2_with (first | ((with_reducible refine gate_dst (N := 2) rfl ?_); refine box_event ?hg (N := 2) ?hd (cs := #[.slice A0_0 l0_0.length c0_0, .int .i64 a0_1, .int .i64 a0_2]) (t := 99) ?hr ?_; (case hd => rfl); (case hg => rfl); (case hr => first | (go_simp; done) | (go_simp; rfl)); intro gb101 hg w3 hbox hb; have n0_ := Aside0.mk (below_step F5_ hb); have n1_ := Aside0.mk (hbox); have n2_ := Aside0.mk ((by rw [hg]; exact (below_size F5_) : w.heap.size ≤ gb101)); have n3_ := Aside0.mk ((by rw [hg]; exact (below_size F5_) : w.heap.size ≤ gb101)); clear HB; have HB := n0_; have BK101 := n1_; have GW101 := n2_; have GE101 := n3_; clear n0_ n1_ n2_ n3_; clear hb hbox hg) | ((with_reducible refine gate_dst (N := 4) rfl ?_); refine box_event ?hg (N := 4) ?hd (cs := #[.int .i64 0, .int .u64 0, .int .u64 0, .int .u64 0, .int .u64 0, .bool false]) (t := 185) ?hr ?_; (case hd => rfl); (case hg => rfl); (case hr => first | (go_simp; done) | (go_simp; rfl)); intro gb102 hg w4 hbox hb; have n0_ := Aside0.mk (blk_below (g := gb101) (o := .cells #[.slice A0_0 l0_0.length c0_0, .int .i64 a0_1, .int .i64 a0_2] 99 (0, 0)) F2_ hb); have n1_ := Aside0.mk (below_step F4_ hb); have n2_ := Aside0.mk (hbox); have n3_ := Aside0.mk ((by rw [hg]; exact (below_size F4_) : w.heap.size ≤ gb102)); have n4_ := Aside0.mk ((by rw [hg]; exact (below_size F4_) : w.heap.size ≤ gb102)); have n5_ := Aside0.mk ((by rw [hg]; exact Nat.ne_of_lt (blk_lt (g := gb101) (o := .cells #[.slice A0_0 l0_0.length c0_0, .int .i64 a0_1, .int .i64 a0_2] 99 (0, 0)) F2_) : gb101 ≠ gb102)); have n6_ := Aside0.mk ((by rw [hg]; exact Nat.ne_of_gt (blk_lt (g := gb101) (o := .cells #[.slice A0_0 l0_0.length c0_0, .int .i64 a0_1, .int .i64 a0_2] 99 (0, 0)) F2_) : gb102 ≠ gb101)); clear BK101; clear HB; have BK101 := n0_; have HB := n1_; have BK102 := n2_; have GW102 := n3_; have GE102 := n4_; have NB101_102 := n5_; have NB102_101 := n6_; clear n0_ n1_ n2_ n3_ n4_ n5_ n6_; clear hb hbox hg; have hnb5 := NB101_102.out; have hnc5 := NB102_101.out; have hcz6_0 : w4.cell? ⟨gb101, 0, none⟩ = some (.slice A0_0 l0_0.length c0_0) := (blk_cell BK101.out 0).trans rfl; have hcz6_1 : w4.cell? ⟨gb101, 1, none⟩ = some (.int .i64 a0_1) := (blk_cell BK101.out 1).trans rfl; have hcz6_2 : w4.cell? ⟨gb101, 2, none⟩ = some (.int .i64 a0_2) := (blk_cell BK101.out 2).trans rfl; have hfz6_0 := blk_frozen BK101.out 0; have hfz6_1 := blk_frozen BK101.out 1; have hfz6_2 := blk_frozen BK101.out 2))
  go_loopg [11] k (fun kq v11 w' => ∃ (x11_1 : Int) (x103000_1 : Int) (x103001_1 : Int) (x103002_1 : Int) (x103003_1 : Int) (x103004_1 : Int) (x103005_1 : Bool), v11 = .int .i64 x11_1 ∧ Aside0 (cluster_Want.l0 kq a1 l0_0 (l0_0.length : Int) x11_1 = some (r1, r2, r3, r4, r5, r6, r7)) ∧ Aside0 (kq ≤ k) ∧ Aside0 (w'.heap[gb101]? = some (.cells #[(.slice A0_0 l0_0.length c0_0), .int .i64 a0_1, .int .i64 a0_2] 99 (0, 0))) ∧ Aside0 (w'.heap[gb102]? = some (.cells #[.int .i64 x103000_1, .int .u64 x103001_1, .int .u64 x103002_1, .int .u64 x103003_1, .int .u64 x103004_1, .bool x103005_1] 185 (0, 0))) ∧ Aside0 (Below w.heap.size w w'))
  case atStart => exact ⟨(0), (0), (0), (0), (0), (0), (false), (by first | rfl | (simp; done) | (simp [*]; done)), H', ⟨Nat.le_refl _⟩, ⟨by (with_reducible repeat (first | refine blk_drewN ?_ _ | refine blk_drew ?_ | refine blk_alloc ?_ _)); exact BK101.out⟩, ⟨by (with_reducible repeat (first | refine blk_drewN ?_ _ | refine blk_drew ?_ | refine blk_alloc ?_ _)); exact BK102.out⟩, ⟨by repeat (first | (with_reducible first | exact HB.out | apply below_alloc | apply pw_below_drewN | apply below_drew1 | refine below_set ?_ GE101.out | refine below_set ?_ GE102.out) | exact HB.out)⟩⟩
  case round =>
    clear H'
    try clear c1
    try clear p2
    try clear c5
    try clear hcz6_0
    try clear hcz6_1
    try clear hcz6_2
    try clear hfz6_0
    try clear hfz6_1
    try clear hfz6_2
    obtain ⟨x11_1, x103000_1, x103001_1, x103002_1, x103003_1, x103004_1, x103005_1, rfl, HA, HK1, BK101, BK102, HB⟩ := hrel
    cases gk with
    | zero => exact absurd HA.out (by simp [cluster_Want.l0])
    | succ k1 =>
      have H := HA.out
      clear HA
      simp only [cluster_Want.l0] at H
      by_cases c7 : x11_1 < (l0_0.length : Int)
      · rw [if_pos c7] at H
        have c7b0 : decide (x11_1 < (l0_0.length : Int)) = true := decide_eq_true c7
        clear c7
        by_cases c8 : 0 ≤ x11_1
        · rw [if_pos c8] at H
          have c8b0 : decide (0 ≤ x11_1) = true := decide_eq_true c8
          clear c8
          by_cases c9 : x11_1 < (l0_0.length : Int)
          · rw [if_pos c9] at H
            have c9b0 : decide (x11_1 < (l0_0.length : Int)) = true := decide_eq_true c9
            clear c9
            by_cases c10 : ((rd_T185 l0_0 x11_1).f0) = a1
            · rw [if_pos c10] at H
              have c10b0 : (((rd_T185 l0_0 x11_1).f0) == a1) = true := beq_iff_eq.mpr c10
              have c10b1 : (((rd_T185 l0_0 x11_1).f0) != a1) = false := bne_eq_false_iff_eq.mpr c10
              clear c10
              simp only [Option.some.injEq, Prod.mk.injEq] at H
              obtain ⟨rfl, rfl, rfl, rfl, rfl, rfl, rfl⟩ := H
              have p103 : 0 ≤ (x11_1 : Int) := of_decide_eq_true (by first | (with_reducible assumption) | assumption)
              have q103 : x11_1 < (l0_0.length : Int) := of_decide_eq_true (by first | (with_reducible assumption) | assumption)
              obtain ⟨ad103, e103, hx103_0, hx103_1, hx103_2, hx103_3, hx103_4, hx103_5⟩ := at_T185 HR0_0.out x11_1 p103 q103
              cases e103
              replace hx103_0 := (HB.out.cell (World.block_lt_of_cell? w _ hx103_0)).trans hx103_0
              replace hx103_1 := (HB.out.cell (World.block_lt_of_cell? w _ hx103_1)).trans hx103_1
              replace hx103_2 := (HB.out.cell (World.block_lt_of_cell? w _ hx103_2)).trans hx103_2
              replace hx103_3 := (HB.out.cell (World.block_lt_of_cell? w _ hx103_3)).trans hx103_3
              replace hx103_4 := (HB.out.cell (World.block_lt_of_cell? w _ hx103_4)).trans hx103_4
              replace hx103_5 := (HB.out.cell (World.block_lt_of_cell? w _ hx103_5)).trans hx103_5
              replace p103 := eq_true p103
              replace q103 := eq_true q103
              go_wp2_with (first | ((with_reducible refine gate_dst (N := 7) rfl ?_); refine box_event ?hg (N := 7) ?hd (cs := #[.int .i64 0, .int .u64 0, .int .u64 0, .int .u64 0, .int .u64 0, .bool false]) (t := 185) ?hr ?_; (case hd => rfl); (case hg => rfl); (case hr => first | (go_simp; done) | (go_simp; rfl)); intro gb104 hg w11 hbox hb; have n0_ := Aside0.mk (blk_below (g := gb101) (o := .cells #[.slice (some ad103) l0_0.length c0_0, .int .i64 a0_1, .int .i64 a0_2] 99 (0, 0)) F2_ hb); have n1_ := Aside0.mk (blk_below (g := gb102) (o := .cells #[.int .i64 x103000_1, .int .u64 x103001_1, .int .u64 x103002_1, .int .u64 x103003_1, .int .u64 x103004_1, .bool x103005_1] 185 (0, 0)) F3_ hb); have n2_ := Aside0.mk (below_step F1_ hb); have n3_ := Aside0.mk (hbox); have n4_ := Aside0.mk ((by rw [hg]; exact (below_size F1_) : w.heap.size ≤ gb104)); have n5_ := Aside0.mk ((by rw [hg]; exact (below_size F1_) : w.heap.size ≤ gb104)); have n6_ := Aside0.mk ((by rw [hg]; exact Nat.ne_of_lt (blk_lt (g := gb101) (o := .cells #[.slice (some ad103) l0_0.length c0_0, .int .i64 a0_1, .int .i64 a0_2] 99 (0, 0)) F2_) : gb101 ≠ gb104)); have n7_ := Aside0.mk ((by rw [hg]; exact Nat.ne_of_gt (blk_lt (g := gb101) (o := .cells #[.slice (some ad103) l0_0.length c0_0, .int .i64 a0_1, .int .i64 a0_2] 99 (0, 0)) F2_) : gb104 ≠ gb101)); have n8_ := Aside0.mk ((by rw [hg]; exact Nat.ne_of_lt (blk_lt (g := gb102) (o := .cells #[.int .i64 x103000_1, .int .u64 x103001_1, .int .u64 x103002_1, .int .u64 x103003_1, .int .u64 x103004_1, .bool x103005_1] 185 (0, 0)) F3_) : gb102 ≠ gb104)); have n9_ := Aside0.mk ((by rw [hg]; exact Nat.ne_of_gt (blk_lt (g := gb102) (o := .cells #[.int .i64 x103000_1, .int .u64 x103001_1, .int .u64 x103002_1, .int .u64 x103003_1, .int .u64 x103004_1, .bool x103005_1] 185 (0, 0)) F3_) : gb104 ≠ gb102)); clear BK101; clear BK102; clear HB; have BK101 := n0_; have BK102 := n1_; have HB := n2_; have BK104 := n3_; have GW104 := n4_; have GE104 := n5_; have NB101_104 := n6_; have NB104_101 := n7_; have NB102_104 := n8_; have NB104_102 := n9_; clear n0_ n1_ n2_ n3_ n4_ n5_ n6_ n7_ n8_ n9_; clear hb hbox hg; have hnb12 := NB104_101.out; have hnc12 := NB101_104.out; have hnb13 := NB104_102.out; have hnc13 := NB102_104.out; have hcz14_0 : w11.cell? ⟨gb104, 0, none⟩ = some (.int .i64 0) := (blk_cell BK104.out 0).trans rfl; have hcz14_1 : w11.cell? ⟨gb104, 1, none⟩ = some (.int .u64 0) := (blk_cell BK104.out 1).trans rfl; have hcz14_2 : w11.cell? ⟨gb104, 2, none⟩ = some (.int .u64 0) := (blk_cell BK104.out 2).trans rfl; have hcz14_3 : w11.cell? ⟨gb104, 3, none⟩ = some (.int .u64 0) := (blk_cell BK104.out 3).trans rfl; have hcz14_4 : w11.cell? ⟨gb104, 4, none⟩ = some (.int .u64 0) := (blk_cell BK104.out 4).trans rfl; have hcz14_5 : w11.cell? ⟨gb104, 5, none⟩ = some (.bool false) := (blk_cell BK104.out 5).trans rfl; have hfz14_0 := blk_frozen BK104.out 0; have hfz14_1 := blk_frozen BK104.out 1; have hfz14_2 := blk_frozen BK104.out 2; have hfz14_3 := blk_frozen BK104.out 3; have hfz14_4 := blk_frozen BK104.out 4; have hfz14_5 := blk_frozen BK104.out 5; have hnb15 := NB102_101.out; have hnc15 := NB101_102.out; have hcz16_0 : w11.cell? ⟨gb102, 0, none⟩ = some (.int .i64 x103000_1) := (blk_cell BK102.out 0).trans rfl; have hcz16_1 : w11.cell? ⟨gb102, 1, none⟩ = some (.int .u64 x103001_1) := (blk_cell BK102.out 1).trans rfl; have hcz16_2 : w11.cell? ⟨gb102, 2, none⟩ = some (.int .u64 x103002_1) := (blk_cell BK102.out 2).trans rfl; have hcz16_3 : w11.cell? ⟨gb102, 3, none⟩ = some (.int .u64 x103003_1) := (blk_cell BK102.out 3).trans rfl; have hcz16_4 : w11.cell? ⟨gb102, 4, none⟩ = some (.int .u64 x103004_1) := (blk_cell BK102.out 4).trans rfl; have hcz16_5 : w11.cell? ⟨gb102, 5, none⟩ = some (.bool x103005_1) := (blk_cell BK102.out 5).trans rfl; have hfz16_0 := blk_frozen BK102.out 0; have hfz16_1 := blk_frozen BK102.out 1; have hfz16_2 := blk_frozen BK102.out 2; have hfz16_3 := blk_frozen BK102.out 3; have hfz16_4 := blk_frozen BK102.out 4; have hfz16_5 := blk_frozen BK102.out 5))
              refine bodyPost_ret (results_ct rfl _ _ gb102 185 #[.int .i64 ((rd_T185 l0_0 x11_1).f0), .int .u64 ((rd_T185 l0_0 x11_1).f1.f0), .int .u64 ((rd_T185 l0_0 x11_1).f1.f1), .int .u64 ((rd_T185 l0_0 x11_1).f1.f2), .int .u64 ((rd_T185 l0_0 x11_1).f1.f3), .bool ((rd_T185 l0_0 x11_1).f2)] (0, 0) _ rfl (by (with_reducible repeat (first | refine blk_drewN ?_ _ | refine blk_drew ?_ | refine blk_alloc ?_ _)); refine blk_put (cs := #[.int .i64 ((rd_T185 l0_0 x11_1).f0), .int .u64 ((rd_T185 l0_0 x11_1).f1.f0), .int .u64 ((rd_T185 l0_0 x11_1).f1.f1), .int .u64 ((rd_T185 l0_0 x11_1).f1.f2), .int .u64 ((rd_T185 l0_0 x11_1).f1.f3), .bool x103005_1]) ?_ 5 _ rfl; (with_reducible repeat (first | refine blk_drewN ?_ _ | refine blk_drew ?_ | refine blk_alloc ?_ _)); refine blk_put (cs := #[.int .i64 ((rd_T185 l0_0 x11_1).f0), .int .u64 ((rd_T185 l0_0 x11_1).f1.f0), .int .u64 ((rd_T185 l0_0 x11_1).f1.f1), .int .u64 ((rd_T185 l0_0 x11_1).f1.f2), .int .u64 x103004_1, .bool x103005_1]) ?_ 4 _ rfl; (with_reducible repeat (first | refine blk_drewN ?_ _ | refine blk_drew ?_ | refine blk_alloc ?_ _)); refine blk_put (cs := #[.int .i64 ((rd_T185 l0_0 x11_1).f0), .int .u64 ((rd_T185 l0_0 x11_1).f1.f0), .int .u64 ((rd_T185 l0_0 x11_1).f1.f1), .int .u64 x103003_1, .int .u64 x103004_1, .bool x103005_1]) ?_ 3 _ rfl; (with_reducible repeat (first | refine blk_drewN ?_ _ | refine blk_drew ?_ | refine blk_alloc ?_ _)); refine blk_put (cs := #[.int .i64 ((rd_T185 l0_0 x11_1).f0), .int .u64 ((rd_T185 l0_0 x11_1).f1.f0), .int .u64 x103002_1, .int .u64 x103003_1, .int .u64 x103004_1, .bool x103005_1]) ?_ 2 _ rfl; (with_reducible repeat (first | refine blk_drewN ?_ _ | refine blk_drew ?_ | refine blk_alloc ?_ _)); refine blk_put (cs := #[.int .i64 ((rd_T185 l0_0 x11_1).f0), .int .u64 x103001_1, .int .u64 x103002_1, .int .u64 x103003_1, .int .u64 x103004_1, .bool x103005_1]) ?_ 1 _ rfl; (with_reducible repeat (first | refine blk_drewN ?_ _ | refine blk_drew ?_ | refine blk_alloc ?_ _)); refine blk_put (cs := #[.int .i64 x103000_1, .int .u64 x103001_1, .int .u64 x103002_1, .int .u64 x103003_1, .int .u64 x103004_1, .bool x103005_1]) ?_ 0 _ rfl; (with_reducible repeat (first | refine blk_drewN ?_ _ | refine blk_drew ?_ | refine blk_alloc ?_ _)); refine blk_far ?_ NB102_104.out _; (with_reducible repeat (first | refine blk_drewN ?_ _ | refine blk_drew ?_ | refine blk_alloc ?_ _)); refine blk_far ?_ NB102_104.out _; (with_reducible repeat (first | refine blk_drewN ?_ _ | refine blk_drew ?_ | refine blk_alloc ?_ _)); refine blk_far ?_ NB102_104.out _; (with_reducible repeat (first | refine blk_drewN ?_ _ | refine blk_drew ?_ | refine blk_alloc ?_ _)); refine blk_far ?_ NB102_104.out _; (with_reducible repeat (first | refine blk_drewN ?_ _ | refine blk_drew ?_ | refine blk_alloc ?_ _)); refine blk_far ?_ NB102_104.out _; (with_reducible repeat (first | refine blk_drewN ?_ _ | refine blk_drew ?_ | refine blk_alloc ?_ _)); refine blk_far ?_ NB102_104.out _; (with_reducible repeat (first | refine blk_drewN ?_ _ | refine blk_drew ?_ | refine blk_alloc ?_ _)); exact BK102.out) Try.underlying185 rfl (by kernel_rfl)) rfl ?_
              exact ⟨by first | rfl | (simp [errW_none, errW_some] <;> rfl) | (simp [*, errW_none, errW_some] <;> rfl), F6_⟩
            · rw [if_neg c10] at H
              have c10b0 : (((rd_T185 l0_0 x11_1).f0) == a1) = false := beq_eq_false_iff_ne.mpr c10
              have c10b1 : (((rd_T185 l0_0 x11_1).f0) != a1) = true := bne_iff_ne.mpr c10
              have H' := Aside0.mk H
              clear H
              have p103 : 0 ≤ (x11_1 : Int) := of_decide_eq_true (by first | (with_reducible assumption) | assumption)
              have q103 : x11_1 < (l0_0.length : Int) := of_decide_eq_true (by first | (with_reducible assumption) | assumption)
              obtain ⟨ad103, e103, hx103_0, hx103_1, hx103_2, hx103_3, hx103_4, hx103_5⟩ := at_T185 HR0_0.out x11_1 p103 q103
              cases e103
              replace hx103_0 := (HB.out.cell (World.block_lt_of_cell? w _ hx103_0)).trans hx103_0
              replace hx103_1 := (HB.out.cell (World.block_lt_of_cell? w _ hx103_1)).trans hx103_1
              replace hx103_2 := (HB.out.cell (World.block_lt_of_cell? w _ hx103_2)).trans hx103_2
              replace hx103_3 := (HB.out.cell (World.block_lt_of_cell? w _ hx103_3)).trans hx103_3
              replace hx103_4 := (HB.out.cell (World.block_lt_of_cell? w _ hx103_4)).trans hx103_4
              replace hx103_5 := (HB.out.cell (World.block_lt_of_cell? w _ hx103_5)).trans hx103_5
              replace p103 := eq_true p103
              replace q103 := eq_true q103
              go_wp2_with (first | ((with_reducible refine gate_dst (N := 7) rfl ?_); refine box_event ?hg (N := 7) ?hd (cs := #[.int .i64 0, .int .u64 0, .int .u64 0, .int .u64 0, .int .u64 0, .bool false]) (t := 185) ?hr ?_; (case hd => rfl); (case hg => rfl); (case hr => first | (go_simp; done) | (go_simp; rfl)); intro gb104 hg w17 hbox hb; have n0_ := Aside0.mk (blk_below (g := gb101) (o := .cells #[.slice (some ad103) l0_0.length c0_0, .int .i64 a0_1, .int .i64 a0_2] 99 (0, 0)) F2_ hb); have n1_ := Aside0.mk (blk_below (g := gb102) (o := .cells #[.int .i64 x103000_1, .int .u64 x103001_1, .int .u64 x103002_1, .int .u64 x103003_1, .int .u64 x103004_1, .bool x103005_1] 185 (0, 0)) F3_ hb); have n2_ := Aside0.mk (below_step F1_ hb); have n3_ := Aside0.mk (hbox); have n4_ := Aside0.mk ((by rw [hg]; exact (below_size F1_) : w.heap.size ≤ gb104)); have n5_ := Aside0.mk ((by rw [hg]; exact (below_size F1_) : w.heap.size ≤ gb104)); have n6_ := Aside0.mk ((by rw [hg]; exact Nat.ne_of_lt (blk_lt (g := gb101) (o := .cells #[.slice (some ad103) l0_0.length c0_0, .int .i64 a0_1, .int .i64 a0_2] 99 (0, 0)) F2_) : gb101 ≠ gb104)); have n7_ := Aside0.mk ((by rw [hg]; exact Nat.ne_of_gt (blk_lt (g := gb101) (o := .cells #[.slice (some ad103) l0_0.length c0_0, .int .i64 a0_1, .int .i64 a0_2] 99 (0, 0)) F2_) : gb104 ≠ gb101)); have n8_ := Aside0.mk ((by rw [hg]; exact Nat.ne_of_lt (blk_lt (g := gb102) (o := .cells #[.int .i64 x103000_1, .int .u64 x103001_1, .int .u64 x103002_1, .int .u64 x103003_1, .int .u64 x103004_1, .bool x103005_1] 185 (0, 0)) F3_) : gb102 ≠ gb104)); have n9_ := Aside0.mk ((by rw [hg]; exact Nat.ne_of_gt (blk_lt (g := gb102) (o := .cells #[.int .i64 x103000_1, .int .u64 x103001_1, .int .u64 x103002_1, .int .u64 x103003_1, .int .u64 x103004_1, .bool x103005_1] 185 (0, 0)) F3_) : gb104 ≠ gb102)); clear BK101; clear BK102; clear HB; have BK101 := n0_; have BK102 := n1_; have HB := n2_; have BK104 := n3_; have GW104 := n4_; have GE104 := n5_; have NB101_104 := n6_; have NB104_101 := n7_; have NB102_104 := n8_; have NB104_102 := n9_; clear n0_ n1_ n2_ n3_ n4_ n5_ n6_ n7_ n8_ n9_; clear hb hbox hg; have hnb18 := NB104_101.out; have hnc18 := NB101_104.out; have hnb19 := NB104_102.out; have hnc19 := NB102_104.out; have hcz20_0 : w17.cell? ⟨gb104, 0, none⟩ = some (.int .i64 0) := (blk_cell BK104.out 0).trans rfl; have hcz20_1 : w17.cell? ⟨gb104, 1, none⟩ = some (.int .u64 0) := (blk_cell BK104.out 1).trans rfl; have hcz20_2 : w17.cell? ⟨gb104, 2, none⟩ = some (.int .u64 0) := (blk_cell BK104.out 2).trans rfl; have hcz20_3 : w17.cell? ⟨gb104, 3, none⟩ = some (.int .u64 0) := (blk_cell BK104.out 3).trans rfl; have hcz20_4 : w17.cell? ⟨gb104, 4, none⟩ = some (.int .u64 0) := (blk_cell BK104.out 4).trans rfl; have hcz20_5 : w17.cell? ⟨gb104, 5, none⟩ = some (.bool false) := (blk_cell BK104.out 5).trans rfl; have hfz20_0 := blk_frozen BK104.out 0; have hfz20_1 := blk_frozen BK104.out 1; have hfz20_2 := blk_frozen BK104.out 2; have hfz20_3 := blk_frozen BK104.out 3; have hfz20_4 := blk_frozen BK104.out 4; have hfz20_5 := blk_frozen BK104.out 5))
              go_roundg k1
              case measure => have := HK1.out; omega
              case rel => exact ⟨(wrap64 (x11_1 + 1)), (x103000_1), (x103001_1), (x103002_1), (x103003_1), (x103004_1), (x103005_1), (by first | rfl | (simp; done) | (simp [*]; done)), H', ⟨by have := HK1.out; omega⟩, ⟨by (with_reducible repeat (first | refine blk_drewN ?_ _ | refine blk_drew ?_ | refine blk_alloc ?_ _)); refine blk_far ?_ NB101_104.out _; (with_reducible repeat (first | refine blk_drewN ?_ _ | refine blk_drew ?_ | refine blk_alloc ?_ _)); refine blk_far ?_ NB101_104.out _; (with_reducible repeat (first | refine blk_drewN ?_ _ | refine blk_drew ?_ | refine blk_alloc ?_ _)); refine blk_far ?_ NB101_104.out _; (with_reducible repeat (first | refine blk_drewN ?_ _ | refine blk_drew ?_ | refine blk_alloc ?_ _)); refine blk_far ?_ NB101_104.out _; (with_reducible repeat (first | refine blk_drewN ?_ _ | refine blk_drew ?_ | refine blk_alloc ?_ _)); refine blk_far ?_ NB101_104.out _; (with_reducible repeat (first | refine blk_drewN ?_ _ | refine blk_drew ?_ | refine blk_alloc ?_ _)); refine blk_far ?_ NB101_104.out _; (with_reducible repeat (first | refine blk_drewN ?_ _ | refine blk_drew ?_ | refine blk_alloc ?_ _)); exact BK101.out⟩, ⟨by (with_reducible repeat (first | refine blk_drewN ?_ _ | refine blk_drew ?_ | refine blk_alloc ?_ _)); refine blk_far ?_ NB102_104.out _; (with_reducible repeat (first | refine blk_drewN ?_ _ | refine blk_drew ?_ | refine blk_alloc ?_ _)); refine blk_far ?_ NB102_104.out _; (with_reducible repeat (first | refine blk_drewN ?_ _ | refine blk_drew ?_ | refine blk_alloc ?_ _)); refine blk_far ?_ NB102_104.out _; (with_reducible repeat (first | refine blk_drewN ?_ _ | refine blk_drew ?_ | refine blk_alloc ?_ _)); refine blk_far ?_ NB102_104.out _; (with_reducible repeat (first | refine blk_drewN ?_ _ | refine blk_drew ?_ | refine blk_alloc ?_ _)); refine blk_far ?_ NB102_104.out _; (with_reducible repeat (first | refine blk_drewN ?_ _ | refine blk_drew ?_ | refine blk_alloc ?_ _)); refine blk_far ?_ NB102_104.out _; (with_reducible repeat (first | refine blk_drewN ?_ _ | refine blk_drew ?_ | refine blk_alloc ?_ _)); exact BK102.out⟩, ⟨F6_⟩⟩
          · rw [if_neg c9] at H
            exact absurd H (by simp)
        · rw [if_neg c8] at H
          exact absurd H (by simp)
      · rw [if_neg c7] at H
        have c7b0 : decide (x11_1 < (l0_0.length : Int)) = false := decide_eq_false c7
        clear c7
        simp only [Option.some.injEq, Prod.mk.injEq] at H
        obtain ⟨rfl, rfl, rfl, rfl, rfl, rfl, rfl⟩ := H
        have hnb21 := NB102_101.out
        have hnc21 := NB101_102.out
        have hcz22_0 : wr.cell? ⟨gb102, 0, none⟩ = some (.int .i64 x103000_1) := (blk_cell BK102.out 0).trans rfl
        have hcz22_1 : wr.cell? ⟨gb102, 1, none⟩ = some (.int .u64 x103001_1) := (blk_cell BK102.out 1).trans rfl
        have hcz22_2 : wr.cell? ⟨gb102, 2, none⟩ = some (.int .u64 x103002_1) := (blk_cell BK102.out 2).trans rfl
        have hcz22_3 : wr.cell? ⟨gb102, 3, none⟩ = some (.int .u64 x103003_1) := (blk_cell BK102.out 3).trans rfl
        have hcz22_4 : wr.cell? ⟨gb102, 4, none⟩ = some (.int .u64 x103004_1) := (blk_cell BK102.out 4).trans rfl
        have hcz22_5 : wr.cell? ⟨gb102, 5, none⟩ = some (.bool x103005_1) := (blk_cell BK102.out 5).trans rfl
        have hfz22_0 := blk_frozen BK102.out 0
        have hfz22_1 := blk_frozen BK102.out 1
        have hfz22_2 := blk_frozen BK102.out 2
        have hfz22_3 := blk_frozen BK102.out 3
        have hfz22_4 := blk_frozen BK102.out 4
        have hfz22_5 := blk_frozen BK102.out 5
        go_wp2
        refine bodyPost_ret (results_ct rfl _ _ gb102 185 #[.int .i64 0, .int .u64 0, .int .u64 0, .int .u64 0, .int .u64 0, .bool false] (0, 0) _ rfl (by (with_reducible repeat (first | refine blk_drewN ?_ _ | refine blk_drew ?_ | refine blk_alloc ?_ _)); refine blk_put (cs := #[.int .i64 0, .int .u64 0, .int .u64 0, .int .u64 0, .int .u64 0, .bool x103005_1]) ?_ 5 _ rfl; (with_reducible repeat (first | refine blk_drewN ?_ _ | refine blk_drew ?_ | refine blk_alloc ?_ _)); refine blk_put (cs := #[.int .i64 0, .int .u64 0, .int .u64 0, .int .u64 0, .int .u64 x103004_1, .bool x103005_1]) ?_ 4 _ rfl; (with_reducible repeat (first | refine blk_drewN ?_ _ | refine blk_drew ?_ | refine blk_alloc ?_ _)); refine blk_put (cs := #[.int .i64 0, .int .u64 0, .int .u64 0, .int .u64 x103003_1, .int .u64 x103004_1, .bool x103005_1]) ?_ 3 _ rfl; (with_reducible repeat (first | refine blk_drewN ?_ _ | refine blk_drew ?_ | refine blk_alloc ?_ _)); refine blk_put (cs := #[.int .i64 0, .int .u64 0, .int .u64 x103002_1, .int .u64 x103003_1, .int .u64 x103004_1, .bool x103005_1]) ?_ 2 _ rfl; (with_reducible repeat (first | refine blk_drewN ?_ _ | refine blk_drew ?_ | refine blk_alloc ?_ _)); refine blk_put (cs := #[.int .i64 0, .int .u64 x103001_1, .int .u64 x103002_1, .int .u64 x103003_1, .int .u64 x103004_1, .bool x103005_1]) ?_ 1 _ rfl; (with_reducible repeat (first | refine blk_drewN ?_ _ | refine blk_drew ?_ | refine blk_alloc ?_ _)); refine blk_put (cs := #[.int .i64 x103000_1, .int .u64 x103001_1, .int .u64 x103002_1, .int .u64 x103003_1, .int .u64 x103004_1, .bool x103005_1]) ?_ 0 _ rfl; (with_reducible repeat (first | refine blk_drewN ?_ _ | refine blk_drew ?_ | refine blk_alloc ?_ _)); exact BK102.out) Try.underlying185 rfl (by kernel_rfl)) rfl ?_
        exact ⟨by first | rfl | (simp [errW_none, errW_some] <;> rfl) | (simp [*, errW_none, errW_some] <;> rfl), by repeat (first | (with_reducible first | exact HB.out | apply below_alloc | apply pw_below_drewN | apply below_drew1 | refine below_set ?_ GE101.out | refine below_set ?_ GE102.out) | exact HB.out)⟩

end Go.Proofs.Ytppfkbigeknedaa.Q
