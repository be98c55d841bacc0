-- written by a program of this session
import Derived.Test.YtppfkbigeknedaaQ0
import Derived.Test.YtppfkbigeknedaaQwirePut
namespace Go.Proofs.Ytppfkbigeknedaa.Q
open Go.RowKit Go.Proofs.YtppfkbigeknedaaW.PrintWords Go.Proofs.YtppfkbigeknedaaW.PrintLast Go.Proofs.YtppfkbigeknedaaW.PrintMore
attribute [local go_sem] max2_int min2_int max_two min_two max_three min_three max_four min_four   -- for this text's walks alone
set_option linter.unusedVariables false
set_option linter.unusedSimpArgs false

attribute [local go_sem] eqe_ii eqe_nn eqe_ni eqe_nni
/-! ### key_Of: function 19 -/
theorem C_of_blk {k : IntKind} {W : World} {g off n : Nat} {t : TypeId} {cs : Array Value} {xs : List Int} (h : W.heap[g]? = some (.cells cs t (0, 0))) (hn : xs.length = n) (hs : n ≤ 9223372036854775807) (hx : ∀ j x, xs[j]? = some x → cs[off + j]? = some (.int k x)) : Kd.C (Kd.int k) W (some ⟨g, off, none⟩) n xs := by
  refine ⟨hn, hs, fun _ => ⟨_, rfl, fun j p hp => ⟨[.int k p], rfl, rfl, fun i u hu => ?_⟩⟩⟩
  have hi : i = 0 := by have := (List.getElem?_eq_some_iff.1 hu).1; simp at this; omega
  subst hi
  simp at hu
  subst hu
  have e : (⟨g, off, none⟩ : Addr).add (j * (Kd.int k).sz + 0) = ⟨g, off + j, none⟩ := by
    show (⟨g, off, none⟩ : Addr).add (j * 1 + 0) = _
    rw [Nat.mul_one, Nat.add_zero]
    exact add_at g off j
  rw [e]
  exact (blk_cell h (off + j)).trans (hx j p hp)
def key_Of.l0 : Nat → List Int → List (S70) → Int → Int → List (S70) → Int → Int → Option (ByteArray)
  | 0, _, _, _, _, _, _, _ => none
  | k + 1, x3, x12, x13, x14, x102000, x102001, x102002 => if x14 < x13 then (if 0 ≤ x14 then (if x14 < (x12.length : Int) then ((some (([IntKind.u64.wrap ((rd_T70 x12 x14).f0), IntKind.u64.wrap ((rd_T70 x12 x14).f1), IntKind.u64.wrap ((rd_T70 x12 x14).f2)] : List Int) : List Int)).bind fun y107 => (if x3.length + y107.length < 17592186044416 then ((some (x3 ++ y107 : List Int)).bind fun y110 => ((some (([(rd_T70 x12 x14).f3.f0, (rd_T70 x12 x14).f3.f1, (rd_T70 x12 x14).f3.f2, (rd_T70 x12 x14).f3.f3] : List Int) : List Int)).bind fun y113 => (if y110.length + y113.length < 17592186044416 then ((some (y110 ++ y113 : List Int)).bind fun y116 => ((some (([IntKind.u64.wrap ((rd_T70 x12 x14).f4)] : List Int) : List Int)).bind fun y119 => (if y116.length + y119.length < 17592186044416 then (key_Of.l0 k (y116 ++ y119) x12 x13 (wrap64 (x14 + 1)) x102000 x102001 x102002) else (none)))) else (none)))) else (none))) else (none)) else (none)) else ((some (([IntKind.u64.wrap (x102001), IntKind.u64.wrap (x102002)] : List Int) : List Int)).bind fun y125 => (if x3.length + y125.length < 17592186044416 then ((wire_Put.f k (x3 ++ y125)).bind fun t131 => (some (strOfNums t131))) else (none)))
def key_Of.f (k : Nat) (l0_0 : List (S70)) (a0_1 : Int) (a0_2 : Int) : Option (ByteArray) := key_Of.l0 k (([IntKind.u64.wrap ((l0_0.length : Int))] : List Int)) l0_0 (l0_0.length : Int) 0 l0_0 a0_1 a0_2
theorem key_Of.mono_l : ∀ k, (∀ y0 y1 y2 y3 y4 y5 y6, LeO (key_Of.l0 k y0 y1 y2 y3 y4 y5 y6) (key_Of.l0 (k + 1) y0 y1 y2 y3 y4 y5 y6))
  | 0 => fun _ _ _ _ _ _ _ r h => by simp [key_Of.l0] at h
  | k + 1 => by
    have ih0 := key_Of.mono_l k
    · intro y0 y1 y2 y3 y4 y5 y6
      unfold key_Of.l0
      repeat' first
      | (with_reducible exact ih0 _ _ _ _ _ _ _)
      | (with_reducible exact wire_Put.mono _ _)
      | (with_reducible exact LeO.refl _)
      | (with_reducible exact LeO.none _)
      | (with_reducible refine LeO.ite ?_ ?_)
      | (with_reducible refine LeO.bind ?_ (fun _ => ?_))
      | exact ih0 _ _ _ _ _ _ _
      | exact wire_Put.mono _ _
      | exact LeO.none _
      | refine LeO.ite ?_ ?_
      | refine LeO.bind ?_ (fun _ => ?_)
theorem key_Of.mono : ∀ a0 a1 a2 k, LeO (key_Of.f k a0 a1 a2) (key_Of.f (k + 1) a0 a1 a2) := by
  intro a0 a1 a2 k
  have ih0 := key_Of.mono_l k
  unfold key_Of.f
  repeat' first
      | (with_reducible exact ih0 _ _ _ _ _ _ _)
      | (with_reducible exact wire_Put.mono _ _)
      | (with_reducible exact LeO.refl _)
      | (with_reducible exact LeO.none _)
      | (with_reducible refine LeO.ite ?_ ?_)
      | (with_reducible refine LeO.bind ?_ (fun _ => ?_))
      | exact ih0 _ _ _ _ _ _ _
      | exact wire_Put.mono _ _
      | exact LeO.none _
      | refine LeO.ite ?_ ?_
      | refine LeO.bind ?_ (fun _ => ?_)
def key_Of.T6 : Bool × List (List Nat × List Nat) := (true, [([], []), ([], []), ([1], [1]), ([0, 2], [0, 2]), ([], []), ([4], [4]), ([5], [5]), ([6], [6]), ([3, 7, 3], [3, 7]), ([8, 8, 0, 1, 2, 3, 4, 5, 6, 7, 8], [0, 8])])
def key_Of.B6 : List Nat := [0, 0, 2, 7, 0, 16, 48, 112, 255, 511]
theorem key_Of.tab6 : rtab .any (opsOf Try.f19 6) = key_Of.T6 := by kernel_rfl
theorem key_Of.bits6 : waitsOk key_Of.T6.2 key_Of.B6 = true := by kernel_rfl
set_option maxHeartbeats 8000000 in
set_option maxRecDepth 100000 in
theorem key_Of.calls (k : Nat) (A0_0 : Option Addr) (c0_0 : Nat) (l0_0 : List (S70)) (a0_1 : Int) (a0_2 : Int) (r : ByteArray) (w : World) (hr0_0 : Kd.C k70 w A0_0 l0_0.length l0_0) (hc0_0 : l0_0.length ≤ c0_0) (h : key_Of.f k l0_0 a0_1 a0_2 = some r) :
    Calls Try.prog 19 #[.agg #[.slice A0_0 l0_0.length c0_0, .int .i64 a0_1, .int .i64 a0_2]] w fun e w' => e = .returned (.string r) ∧ Below w.heap.size w w' := by
  have hu26 := Try.underlying26
  have hu70 := Try.underlying70
  have HR0_0 := Aside0.mk hr0_0
  have HC0_0 := Aside0.mk hc0_0
  clear hr0_0 hc0_0
  have HB := Aside0.mk (Below.refl w.heap.size w)
  have H : (key_Of.l0 k (([IntKind.u64.wrap ((l0_0.length : Int))] : List Int)) l0_0 (l0_0.length : Int) 0 l0_0 a0_1 a0_2) = some r := h
  clear h
  obtain ⟨y102, hy102⟩ : ∃ y_ : List Int, y_ = (([IntKind.u64.wrap ((l0_0.length : Int))] : List Int)) := ⟨_, rfl⟩
  replace H : (key_Of.l0 k y102 l0_0 (l0_0.length : Int) 0 l0_0 a0_1 a0_2) = some r := by first | (rw [hy102]; with_reducible exact H) | (have H2_ := (Option.bind_some _ _).symm.trans H; rw [hy102]; with_reducible exact H2_) | (have H2_ := (Option.bind_some _ _).symm.trans H; with_reducible exact H2_) | with_reducible exact H | (rw [hy102]; exact H) | exact H
  have Ny102 := Aside0.mk hy102
  clear hy102
  have H' := Aside0.mk H
  clear H
  go_enter Try.func19, Try.ntmps19
  go_wp2_with (first | ((with_reducible refine gate_dst (N := 1) rfl ?_); refine box_event ?hg (N := 1) ?hd (cs := #[.slice A0_0 l0_0.length c0_0, .int .i64 a0_1, .int .i64 a0_2]) (t := 26) ?hr ?_; (case hd => rfl); (case hg => rfl); (case hr => first | (go_simp; done) | (go_simp; rfl)); intro gb101 hg w2 hbox hb; have n0_ := Aside0.mk (below_step (by repeat (first | (with_reducible first | exact HB.out | apply below_alloc | apply pw_below_drewN | apply below_drew1) | exact HB.out)) hb); have n1_ := Aside0.mk (hbox); have n2_ := Aside0.mk ((by rw [hg]; exact (below_size (by repeat (first | (with_reducible first | exact HB.out | apply below_alloc | apply pw_below_drewN | apply below_drew1) | exact HB.out))) : w.heap.size ≤ gb101)); have n3_ := Aside0.mk ((by rw [hg]; exact (below_size (by repeat (first | (with_reducible first | exact HB.out | apply below_alloc | apply pw_below_drewN | apply below_drew1) | exact HB.out))) : w.heap.size ≤ gb101)); clear HB; have HB := n0_; have BK101 := n1_; have GW101 := n2_; have GE101 := n3_; clear n0_ n1_ n2_ n3_; clear hb hbox hg; have hcz3_0 : w2.cell? ⟨gb101, 0, none⟩ = some (.slice A0_0 l0_0.length c0_0) := (blk_cell BK101.out 0).trans rfl; have hcz3_1 : w2.cell? ⟨gb101, 1, none⟩ = some (.int .i64 a0_1) := (blk_cell BK101.out 1).trans rfl; have hcz3_2 : w2.cell? ⟨gb101, 2, none⟩ = some (.int .i64 a0_2) := (blk_cell BK101.out 2).trans rfl; have hfz3_0 := blk_frozen BK101.out 0; have hfz3_1 := blk_frozen BK101.out 1; have hfz3_2 := blk_frozen BK101.out 2) | ((with_reducible refine gate_dst (N := 10) rfl ?_); refine Kd.R_lit (Kd.int .u64) _ 31 ?hg (N := 10) ?hd (xs := ([IntKind.u64.wrap ((l0_0.length : Int))] : List Int)) (inner := [.int .u64 (IntKind.u64.wrap ((l0_0.length : Int)))]) (ok := fun _ => True) (okp := fun _ => True) ?hr ?hp (fun _ hk => hk) trivial (Below.refl _ _) (Nat.le_refl _) (by simp) ?_; (case hd => rfl); (case hg => rfl); (case hr => first | (go_simp; done) | (go_simp; rfl)); (case hp => exact (Reps.one (show Kd.M (Kd.int .u64) _ _ _ (IntKind.u64.wrap ((l0_0.length : Int))) [.int .u64 (IntKind.u64.wrap ((l0_0.length : Int)))] from rfl) (Reps.none _ _))); intro v103 w4 ho5 hb hg_ hnew_; clear hg_ hnew_; (first | rw [← Ny102.out] at ho5 | (simp only [Int.reduceToNat] at ho5; rw [← Ny102.out] at ho5)); have n0_ := Aside0.mk (Kd.R_lower ho5 (below_size (by repeat (first | (with_reducible first | exact HB.out | apply below_alloc | apply pw_below_drewN | apply below_drew1 | refine below_set ?_ GE101.out) | exact HB.out)))); have n1_ := Aside0.mk (blk_below (g := gb101) (o := .cells #[.slice A0_0 l0_0.length c0_0, .int .i64 a0_1, .int .i64 a0_2] 26 (0, 0)) (by (with_reducible repeat (first | refine blk_drewN ?_ _ | refine blk_drew ?_ | refine blk_alloc ?_ _)); exact BK101.out) hb); have n2_ := Aside0.mk (below_step (by repeat (first | (with_reducible first | exact HB.out | apply below_alloc | apply pw_below_drewN | apply below_drew1 | refine below_set ?_ GE101.out) | exact HB.out)) hb); clear BK101; clear HB; have HO104 := n0_; have BK101 := n1_; have HB := n2_; clear n0_ n1_ n2_; clear hb ho5; have hcz6_0 : w4.cell? ⟨gb101, 0, none⟩ = some (.slice A0_0 l0_0.length c0_0) := (blk_cell BK101.out 0).trans rfl; have hcz6_1 : w4.cell? ⟨gb101, 1, none⟩ = some (.int .i64 a0_1) := (blk_cell BK101.out 1).trans rfl; have hcz6_2 : w4.cell? ⟨gb101, 2, none⟩ = some (.int .i64 a0_2) := (blk_cell BK101.out 2).trans rfl; have hfz6_0 := blk_frozen BK101.out 0; have hfz6_1 := blk_frozen BK101.out 1; have hfz6_2 := blk_frozen BK101.out 2))
  go_loopg [3, 14] k (fun kq v3 v14 w' => ∃ (x3_1 : List Int) (x14_1 : Int), v14 = .int .i64 x14_1 ∧ Aside0 (key_Of.l0 kq x3_1 l0_0 (l0_0.length : Int) x14_1 l0_0 a0_1 a0_2 = some r) ∧ Aside0 (kq ≤ k) ∧ Aside0 (Kd.R (Kd.int .u64) 31 w' w.heap.size (fun _ => True) v3 x3_1) ∧ Aside0 (w'.heap[gb101]? = some (.cells #[(.slice A0_0 l0_0.length c0_0), .int .i64 a0_1, .int .i64 a0_2] 26 (0, 0))) ∧ Aside0 (Below w.heap.size w w'))
  case atStart => exact ⟨(y102), (0), (by first | rfl | (simp; done) | (simp [*]; done)), H', ⟨Nat.le_refl _⟩, ⟨by (with_reducible repeat (first | apply Kd.R_alloc | apply Kd.R_drewN | apply Kd.R_drew)); exact HO104.out⟩, ⟨by (with_reducible repeat (first | refine blk_drewN ?_ _ | refine blk_drew ?_ | refine blk_alloc ?_ _)); exact BK101.out⟩, ⟨by repeat (first | (with_reducible first | exact HB.out | apply below_alloc | apply pw_below_drewN | apply below_drew1 | refine below_set ?_ GE101.out) | exact HB.out)⟩⟩
  case round =>
    clear H'
    try clear c1
    try clear p2
    try clear hcz3_0
    try clear hcz3_1
    try clear hcz3_2
    try clear hcz6_0
    try clear hcz6_1
    try clear hcz6_2
    try clear hfz3_0
    try clear hfz3_1
    try clear hfz3_2
    try clear hfz6_0
    try clear hfz6_1
    try clear hfz6_2
    obtain ⟨x3_1, x14_1, rfl, HA, HK1, HO_3, BK101, HB⟩ := hrel
    cases gk with
    | zero => exact absurd HA.out (by simp [key_Of.l0])
    | succ k1 =>
      have H := HA.out
      clear HA
      simp only [key_Of.l0] at H
      by_cases c7 : x14_1 < (l0_0.length : Int)
      · rw [if_pos c7] at H
        have c7b0 : decide (x14_1 < (l0_0.length : Int)) = true := decide_eq_true c7
        clear c7
        by_cases c8 : 0 ≤ x14_1
        · rw [if_pos c8] at H
          have c8b0 : decide (0 ≤ x14_1) = true := decide_eq_true c8
          clear c8
          by_cases c9 : x14_1 < (l0_0.length : Int)
          · rw [if_pos c9] at H
            have c9b0 : decide (x14_1 < (l0_0.length : Int)) = true := decide_eq_true c9
            clear c9
            obtain ⟨y107, hy107⟩ : ∃ y_ : List Int, y_ = (([IntKind.u64.wrap ((rd_T70 l0_0 x14_1).f0), IntKind.u64.wrap ((rd_T70 l0_0 x14_1).f1), IntKind.u64.wrap ((rd_T70 l0_0 x14_1).f2)] : List Int)) := ⟨_, rfl⟩
            replace H : (if x3_1.length + y107.length < 17592186044416 then ((some (x3_1 ++ y107 : List Int)).bind fun y110 => ((some (([(rd_T70 l0_0 x14_1).f3.f0, (rd_T70 l0_0 x14_1).f3.f1, (rd_T70 l0_0 x14_1).f3.f2, (rd_T70 l0_0 x14_1).f3.f3] : List Int) : List Int)).bind fun y113 => (if y110.length + y113.length < 17592186044416 then ((some (y110 ++ y113 : List Int)).bind fun y116 => ((some (([IntKind.u64.wrap ((rd_T70 l0_0 x14_1).f4)] : List Int) : List Int)).bind fun y119 => (if y116.length + y119.length < 17592186044416 then (key_Of.l0 k1 (y116 ++ y119) l0_0 (l0_0.length : Int) (wrap64 (x14_1 + 1)) l0_0 a0_1 a0_2) else (none)))) else (none)))) else (none)) = some r := by first | (rw [hy107]; with_reducible exact H) | (have H2_ := (Option.bind_some _ _).symm.trans H; rw [hy107]; with_reducible exact H2_) | (have H2_ := (Option.bind_some _ _).symm.trans H; with_reducible exact H2_) | with_reducible exact H | (rw [hy107]; exact H) | exact H
            have Ny107 := Aside0.mk hy107
            clear hy107
            by_cases c10 : x3_1.length + y107.length < 17592186044416
            · rw [if_pos c10] at H
              have LMc10 := Aside0.mk c10
              clear c10
              obtain ⟨y110, hy110⟩ : ∃ y_ : List Int, y_ = (x3_1 ++ y107) := ⟨_, rfl⟩
              replace H : ((some (([(rd_T70 l0_0 x14_1).f3.f0, (rd_T70 l0_0 x14_1).f3.f1, (rd_T70 l0_0 x14_1).f3.f2, (rd_T70 l0_0 x14_1).f3.f3] : List Int) : List Int)).bind fun y113 => (if y110.length + y113.length < 17592186044416 then ((some (y110 ++ y113 : List Int)).bind fun y116 => ((some (([IntKind.u64.wrap ((rd_T70 l0_0 x14_1).f4)] : List Int) : List Int)).bind fun y119 => (if y116.length + y119.length < 17592186044416 then (key_Of.l0 k1 (y116 ++ y119) l0_0 (l0_0.length : Int) (wrap64 (x14_1 + 1)) l0_0 a0_1 a0_2) else (none)))) else (none))) = some r := by first | (rw [hy110]; with_reducible exact H) | (have H2_ := (Option.bind_some _ _).symm.trans H; rw [hy110]; with_reducible exact H2_) | (have H2_ := (Option.bind_some _ _).symm.trans H; with_reducible exact H2_) | with_reducible exact H | (rw [hy110]; exact H) | exact H
              have Ny110 := Aside0.mk hy110
              clear hy110
              obtain ⟨y113, hy113⟩ : ∃ y_ : List Int, y_ = (([(rd_T70 l0_0 x14_1).f3.f0, (rd_T70 l0_0 x14_1).f3.f1, (rd_T70 l0_0 x14_1).f3.f2, (rd_T70 l0_0 x14_1).f3.f3] : List Int)) := ⟨_, rfl⟩
              replace H : (if y110.length + y113.length < 17592186044416 then ((some (y110 ++ y113 : List Int)).bind fun y116 => ((some (([IntKind.u64.wrap ((rd_T70 l0_0 x14_1).f4)] : List Int) : List Int)).bind fun y119 => (if y116.length + y119.length < 17592186044416 then (key_Of.l0 k1 (y116 ++ y119) l0_0 (l0_0.length : Int) (wrap64 (x14_1 + 1)) l0_0 a0_1 a0_2) else (none)))) else (none)) = some r := by first | (rw [hy113]; with_reducible exact H) | (have H2_ := (Option.bind_some _ _).symm.trans H; rw [hy113]; with_reducible exact H2_) | (have H2_ := (Option.bind_some _ _).symm.trans H; with_reducible exact H2_) | with_reducible exact H | (rw [hy113]; exact H) | exact H
              have Ny113 := Aside0.mk hy113
              clear hy113
              by_cases c11 : y110.length + y113.length < 17592186044416
              · rw [if_pos c11] at H
                have LMc11 := Aside0.mk c11
                clear c11
                obtain ⟨y116, hy116⟩ : ∃ y_ : List Int, y_ = (y110 ++ y113) := ⟨_, rfl⟩
                replace H : ((some (([IntKind.u64.wrap ((rd_T70 l0_0 x14_1).f4)] : List Int) : List Int)).bind fun y119 => (if y116.length + y119.length < 17592186044416 then (key_Of.l0 k1 (y116 ++ y119) l0_0 (l0_0.length : Int) (wrap64 (x14_1 + 1)) l0_0 a0_1 a0_2) else (none))) = some r := by first | (rw [hy116]; with_reducible exact H) | (have H2_ := (Option.bind_some _ _).symm.trans H; rw [hy116]; with_reducible exact H2_) | (have H2_ := (Option.bind_some _ _).symm.trans H; with_reducible exact H2_) | with_reducible exact H | (rw [hy116]; exact H) | exact H
                have Ny116 := Aside0.mk hy116
                clear hy116
                obtain ⟨y119, hy119⟩ : ∃ y_ : List Int, y_ = (([IntKind.u64.wrap ((rd_T70 l0_0 x14_1).f4)] : List Int)) := ⟨_, rfl⟩
                replace H : (if y116.length + y119.length < 17592186044416 then (key_Of.l0 k1 (y116 ++ y119) l0_0 (l0_0.length : Int) (wrap64 (x14_1 + 1)) l0_0 a0_1 a0_2) else (none)) = some r := by first | (rw [hy119]; with_reducible exact H) | (have H2_ := (Option.bind_some _ _).symm.trans H; rw [hy119]; with_reducible exact H2_) | (have H2_ := (Option.bind_some _ _).symm.trans H; with_reducible exact H2_) | with_reducible exact H | (rw [hy119]; exact H) | exact H
                have Ny119 := Aside0.mk hy119
                clear hy119
                by_cases c12 : y116.length + y119.length < 17592186044416
                · rw [if_pos c12] at H
                  have LMc12 := Aside0.mk c12
                  clear c12
                  obtain ⟨y122, hy122⟩ : ∃ y_ : List Int, y_ = (y116 ++ y119) := ⟨_, rfl⟩
                  replace H : (key_Of.l0 k1 y122 l0_0 (l0_0.length : Int) (wrap64 (x14_1 + 1)) l0_0 a0_1 a0_2) = some r := by first | (rw [hy122]; with_reducible exact H) | (have H2_ := (Option.bind_some _ _).symm.trans H; rw [hy122]; with_reducible exact H2_) | (have H2_ := (Option.bind_some _ _).symm.trans H; with_reducible exact H2_) | with_reducible exact H | (rw [hy122]; exact H) | exact H
                  have Ny122 := Aside0.mk hy122
                  clear hy122
                  have H' := Aside0.mk H
                  clear H
                  have p105 : 0 ≤ (x14_1 : Int) := of_decide_eq_true (by first | (with_reducible assumption) | assumption)
                  have q105 : x14_1 < (l0_0.length : Int) := of_decide_eq_true (by first | (with_reducible assumption) | assumption)
                  obtain ⟨ad105, e105, hx105_0, hx105_1, hx105_2, hx105_3, hx105_4, hx105_5, hx105_6, hx105_7⟩ := at_T70 HR0_0.out x14_1 p105 q105
                  cases e105
                  replace hx105_0 := (HB.out.cell (World.block_lt_of_cell? w _ hx105_0)).trans hx105_0
                  replace hx105_1 := (HB.out.cell (World.block_lt_of_cell? w _ hx105_1)).trans hx105_1
                  replace hx105_2 := (HB.out.cell (World.block_lt_of_cell? w _ hx105_2)).trans hx105_2
                  replace hx105_3 := (HB.out.cell (World.block_lt_of_cell? w _ hx105_3)).trans hx105_3
                  replace hx105_4 := (HB.out.cell (World.block_lt_of_cell? w _ hx105_4)).trans hx105_4
                  replace hx105_5 := (HB.out.cell (World.block_lt_of_cell? w _ hx105_5)).trans hx105_5
                  replace hx105_6 := (HB.out.cell (World.block_lt_of_cell? w _ hx105_6)).trans hx105_6
                  replace hx105_7 := (HB.out.cell (World.block_lt_of_cell? w _ hx105_7)).trans hx105_7
                  replace p105 := eq_true p105
                  replace q105 := eq_true q105
                  try go_wp2_with (first | ((with_reducible refine gate_dst (N := 5) rfl ?_); refine box_event ?hg (N := 5) ?hd (cs := #[.int .i64 0, .int .i64 0, .int .i64 0, .int .u64 0, .int .u64 0, .int .u64 0, .int .u64 0, .int .i64 0]) (t := 70) ?hr ?_; (case hd => rfl); (case hg => rfl); (case hr => first | (go_simp; done) | (go_simp; rfl)); intro gb106 hg w13 hbox hb; have n0_ := Aside0.mk (Kd.R_below (by (with_reducible repeat (first | apply Kd.R_alloc | apply Kd.R_drewN | apply Kd.R_drew)); exact HO_3.out) hb); have n1_ := Aside0.mk (blk_below (g := gb101) (o := .cells #[.slice (some ad105) l0_0.length c0_0, .int .i64 a0_1, .int .i64 a0_2] 26 (0, 0)) (by (with_reducible repeat (first | refine blk_drewN ?_ _ | refine blk_drew ?_ | refine blk_alloc ?_ _)); exact BK101.out) hb); have n2_ := Aside0.mk (below_step (by repeat (first | (with_reducible first | exact HB.out | apply below_alloc | apply pw_below_drewN | apply below_drew1 | refine below_set ?_ GE101.out) | exact HB.out)) hb); have n3_ := Aside0.mk (hbox); have n4_ := Aside0.mk ((by rw [hg]; exact (below_size (by repeat (first | (with_reducible first | exact HB.out | apply below_alloc | apply pw_below_drewN | apply below_drew1 | refine below_set ?_ GE101.out) | exact HB.out))) : w.heap.size ≤ gb106)); have n5_ := Aside0.mk ((by rw [hg]; exact (below_size (by repeat (first | (with_reducible first | exact HB.out | apply below_alloc | apply pw_below_drewN | apply below_drew1 | refine below_set ?_ GE101.out) | exact HB.out))) : w.heap.size ≤ gb106)); have n6_ := Aside0.mk ((by rw [hg]; exact Nat.ne_of_lt (blk_lt (g := gb101) (o := .cells #[.slice (some ad105) l0_0.length c0_0, .int .i64 a0_1, .int .i64 a0_2] 26 (0, 0)) (by (with_reducible repeat (first | refine blk_drewN ?_ _ | refine blk_drew ?_ | refine blk_alloc ?_ _)); exact BK101.out)) : gb101 ≠ gb106)); have n7_ := Aside0.mk ((by rw [hg]; exact Nat.ne_of_gt (blk_lt (g := gb101) (o := .cells #[.slice (some ad105) l0_0.length c0_0, .int .i64 a0_1, .int .i64 a0_2] 26 (0, 0)) (by (with_reducible repeat (first | refine blk_drewN ?_ _ | refine blk_drew ?_ | refine blk_alloc ?_ _)); exact BK101.out)) : gb106 ≠ gb101)); clear HO_3; clear BK101; clear HB; have HO_3 := n0_; have BK101 := n1_; have HB := n2_; have BK106 := n3_; have GW106 := n4_; have GE106 := n5_; have NB101_106 := n6_; have NB106_101 := n7_; clear n0_ n1_ n2_ n3_ n4_ n5_ n6_ n7_; clear hb hbox hg; have hnb14 := NB106_101.out; have hnc14 := NB101_106.out; have hcz15_0 : w13.cell? ⟨gb106, 0, none⟩ = some (.int .i64 0) := (blk_cell BK106.out 0).trans rfl; have hcz15_1 : w13.cell? ⟨gb106, 1, none⟩ = some (.int .i64 0) := (blk_cell BK106.out 1).trans rfl; have hcz15_2 : w13.cell? ⟨gb106, 2, none⟩ = some (.int .i64 0) := (blk_cell BK106.out 2).trans rfl; have hcz15_3 : w13.cell? ⟨gb106, 3, none⟩ = some (.int .u64 0) := (blk_cell BK106.out 3).trans rfl; have hcz15_4 : w13.cell? ⟨gb106, 4, none⟩ = some (.int .u64 0) := (blk_cell BK106.out 4).trans rfl; have hcz15_5 : w13.cell? ⟨gb106, 5, none⟩ = some (.int .u64 0) := (blk_cell BK106.out 5).trans rfl; have hcz15_6 : w13.cell? ⟨gb106, 6, none⟩ = some (.int .u64 0) := (blk_cell BK106.out 6).trans rfl; have hcz15_7 : w13.cell? ⟨gb106, 7, none⟩ = some (.int .i64 0) := (blk_cell BK106.out 7).trans rfl; have hfz15_0 := blk_frozen BK106.out 0; have hfz15_1 := blk_frozen BK106.out 1; have hfz15_2 := blk_frozen BK106.out 2; have hfz15_3 := blk_frozen BK106.out 3; have hfz15_4 := blk_frozen BK106.out 4; have hfz15_5 := blk_frozen BK106.out 5; have hfz15_6 := blk_frozen BK106.out 6; have hfz15_7 := blk_frozen BK106.out 7) | ((with_reducible refine gate_dst (N := 28) rfl ?_); refine Kd.R_lit (Kd.int .u64) _ 31 ?hg (N := 28) ?hd (xs := ([IntKind.u64.wrap ((rd_T70 l0_0 x14_1).f0), IntKind.u64.wrap ((rd_T70 l0_0 x14_1).f1), IntKind.u64.wrap ((rd_T70 l0_0 x14_1).f2)] : List Int)) (inner := [.int .u64 (IntKind.u64.wrap ((rd_T70 l0_0 x14_1).f0)), .int .u64 (IntKind.u64.wrap ((rd_T70 l0_0 x14_1).f1)), .int .u64 (IntKind.u64.wrap ((rd_T70 l0_0 x14_1).f2))]) (ok := fun _ => True) (okp := fun _ => True) ?hr ?hp (fun _ hk => hk) trivial (Below.refl _ _) (Nat.le_refl _) (by simp) ?_; (case hd => rfl); (case hg => rfl); (case hr => first | (go_simp; done) | (go_simp; rfl)); (case hp => exact (Reps.one (show Kd.M (Kd.int .u64) _ _ _ (IntKind.u64.wrap ((rd_T70 l0_0 x14_1).f0)) [.int .u64 (IntKind.u64.wrap ((rd_T70 l0_0 x14_1).f0))] from rfl) (Reps.one (show Kd.M (Kd.int .u64) _ _ _ (IntKind.u64.wrap ((rd_T70 l0_0 x14_1).f1)) [.int .u64 (IntKind.u64.wrap ((rd_T70 l0_0 x14_1).f1))] from rfl) (Reps.one (show Kd.M (Kd.int .u64) _ _ _ (IntKind.u64.wrap ((rd_T70 l0_0 x14_1).f2)) [.int .u64 (IntKind.u64.wrap ((rd_T70 l0_0 x14_1).f2))] from rfl) (Reps.none _ _))))); intro v108 w16 ho17 hb hg_ hnew_; clear hg_ hnew_; (first | rw [← Ny107.out] at ho17 | (simp only [Int.reduceToNat] at ho17; rw [← Ny107.out] at ho17)); have n0_ := Aside0.mk (Kd.R_elder' (by (with_reducible repeat (first | apply Kd.R_alloc | apply Kd.R_drewN | apply Kd.R_drew)); exact (Kd.R_mono (Kd.R_far (p := ⟨gb106, 7, none⟩) (Kd.R_far (p := ⟨gb106, 6, none⟩) (Kd.R_far (p := ⟨gb106, 5, none⟩) (Kd.R_far (p := ⟨gb106, 4, none⟩) (Kd.R_far (p := ⟨gb106, 3, none⟩) (Kd.R_far (p := ⟨gb106, 2, none⟩) (Kd.R_far (p := ⟨gb106, 1, none⟩) (Kd.R_far (p := ⟨gb106, 0, none⟩) (Kd.R_types HO_3.out BK106.out (by decide)) (fun _ hk => hk.2) (.int .i64 ((rd_T70 l0_0 x14_1).f0))) (fun _ hk => hk.2) (.int .i64 ((rd_T70 l0_0 x14_1).f1))) (fun _ hk => hk.2) (.int .i64 ((rd_T70 l0_0 x14_1).f2))) (fun _ hk => hk.2) (.int .u64 ((rd_T70 l0_0 x14_1).f3.f0))) (fun _ hk => hk.2) (.int .u64 ((rd_T70 l0_0 x14_1).f3.f1))) (fun _ hk => hk.2) (.int .u64 ((rd_T70 l0_0 x14_1).f3.f2))) (fun _ hk => hk.2) (.int .u64 ((rd_T70 l0_0 x14_1).f3.f3))) (fun _ hk => hk.2) (.int .i64 ((rd_T70 l0_0 x14_1).f4))) (fun _ h_ => h_.1))) (Kd.R_base ho17) hb); have n1_ := Aside0.mk (Kd.R_lower (Kd.R_new' ho17 (Kd.R_lt (by (with_reducible repeat (first | apply Kd.R_alloc | apply Kd.R_drewN | apply Kd.R_drew)); exact (Kd.R_mono (Kd.R_far (p := ⟨gb106, 7, none⟩) (Kd.R_far (p := ⟨gb106, 6, none⟩) (Kd.R_far (p := ⟨gb106, 5, none⟩) (Kd.R_far (p := ⟨gb106, 4, none⟩) (Kd.R_far (p := ⟨gb106, 3, none⟩) (Kd.R_far (p := ⟨gb106, 2, none⟩) (Kd.R_far (p := ⟨gb106, 1, none⟩) (Kd.R_far (p := ⟨gb106, 0, none⟩) (Kd.R_types HO_3.out BK106.out (by decide)) (fun _ hk => hk.2) (.int .i64 ((rd_T70 l0_0 x14_1).f0))) (fun _ hk => hk.2) (.int .i64 ((rd_T70 l0_0 x14_1).f1))) (fun _ hk => hk.2) (.int .i64 ((rd_T70 l0_0 x14_1).f2))) (fun _ hk => hk.2) (.int .u64 ((rd_T70 l0_0 x14_1).f3.f0))) (fun _ hk => hk.2) (.int .u64 ((rd_T70 l0_0 x14_1).f3.f1))) (fun _ hk => hk.2) (.int .u64 ((rd_T70 l0_0 x14_1).f3.f2))) (fun _ hk => hk.2) (.int .u64 ((rd_T70 l0_0 x14_1).f3.f3))) (fun _ hk => hk.2) (.int .i64 ((rd_T70 l0_0 x14_1).f4))) (fun _ h_ => h_.1))))) (below_size (by repeat (first | (with_reducible first | exact HB.out | apply below_alloc | apply pw_below_drewN | apply below_drew1 | refine below_set ?_ GE101.out | refine below_set ?_ GE106.out) | exact HB.out)))); have n2_ := Aside0.mk (blk_below (g := gb101) (o := .cells #[.slice (some ad105) l0_0.length c0_0, .int .i64 a0_1, .int .i64 a0_2] 26 (0, 0)) (by (with_reducible repeat (first | refine blk_drewN ?_ _ | refine blk_drew ?_ | refine blk_alloc ?_ _)); refine blk_far ?_ NB101_106.out _; (with_reducible repeat (first | refine blk_drewN ?_ _ | refine blk_drew ?_ | refine blk_alloc ?_ _)); refine blk_far ?_ NB101_106.out _; (with_reducible repeat (first | refine blk_drewN ?_ _ | refine blk_drew ?_ | refine blk_alloc ?_ _)); refine blk_far ?_ NB101_106.out _; (with_reducible repeat (first | refine blk_drewN ?_ _ | refine blk_drew ?_ | refine blk_alloc ?_ _)); refine blk_far ?_ NB101_106.out _; (with_reducible repeat (first | refine blk_drewN ?_ _ | refine blk_drew ?_ | refine blk_alloc ?_ _)); refine blk_far ?_ NB101_106.out _; (with_reducible repeat (first | refine blk_drewN ?_ _ | refine blk_drew ?_ | refine blk_alloc ?_ _)); refine blk_far ?_ NB101_106.out _; (with_reducible repeat (first | refine blk_drewN ?_ _ | refine blk_drew ?_ | refine blk_alloc ?_ _)); refine blk_far ?_ NB101_106.out _; (with_reducible repeat (first | refine blk_drewN ?_ _ | refine blk_drew ?_ | refine blk_alloc ?_ _)); refine blk_far ?_ NB101_106.out _; (with_reducible repeat (first | refine blk_drewN ?_ _ | refine blk_drew ?_ | refine blk_alloc ?_ _)); exact BK101.out) hb); have n3_ := Aside0.mk (blk_below (g := gb106) (o := .cells #[.int .i64 ((rd_T70 l0_0 x14_1).f0), .int .i64 ((rd_T70 l0_0 x14_1).f1), .int .i64 ((rd_T70 l0_0 x14_1).f2), .int .u64 ((rd_T70 l0_0 x14_1).f3.f0), .int .u64 ((rd_T70 l0_0 x14_1).f3.f1), .int .u64 ((rd_T70 l0_0 x14_1).f3.f2), .int .u64 ((rd_T70 l0_0 x14_1).f3.f3), .int .i64 ((rd_T70 l0_0 x14_1).f4)] 70 (0, 0)) (by (with_reducible repeat (first | refine blk_drewN ?_ _ | refine blk_drew ?_ | refine blk_alloc ?_ _)); refine blk_put (cs := #[.int .i64 ((rd_T70 l0_0 x14_1).f0), .int .i64 ((rd_T70 l0_0 x14_1).f1), .int .i64 ((rd_T70 l0_0 x14_1).f2), .int .u64 ((rd_T70 l0_0 x14_1).f3.f0), .int .u64 ((rd_T70 l0_0 x14_1).f3.f1), .int .u64 ((rd_T70 l0_0 x14_1).f3.f2), .int .u64 ((rd_T70 l0_0 x14_1).f3.f3), .int .i64 0]) ?_ 7 _ rfl; (with_reducible repeat (first | refine blk_drewN ?_ _ | refine blk_drew ?_ | refine blk_alloc ?_ _)); refine blk_put (cs := #[.int .i64 ((rd_T70 l0_0 x14_1).f0), .int .i64 ((rd_T70 l0_0 x14_1).f1), .int .i64 ((rd_T70 l0_0 x14_1).f2), .int .u64 ((rd_T70 l0_0 x14_1).f3.f0), .int .u64 ((rd_T70 l0_0 x14_1).f3.f1), .int .u64 ((rd_T70 l0_0 x14_1).f3.f2), .int .u64 0, .int .i64 0]) ?_ 6 _ rfl; (with_reducible repeat (first | refine blk_drewN ?_ _ | refine blk_drew ?_ | refine blk_alloc ?_ _)); refine blk_put (cs := #[.int .i64 ((rd_T70 l0_0 x14_1).f0), .int .i64 ((rd_T70 l0_0 x14_1).f1), .int .i64 ((rd_T70 l0_0 x14_1).f2), .int .u64 ((rd_T70 l0_0 x14_1).f3.f0), .int .u64 ((rd_T70 l0_0 x14_1).f3.f1), .int .u64 0, .int .u64 0, .int .i64 0]) ?_ 5 _ rfl; (with_reducible repeat (first | refine blk_drewN ?_ _ | refine blk_drew ?_ | refine blk_alloc ?_ _)); refine blk_put (cs := #[.int .i64 ((rd_T70 l0_0 x14_1).f0), .int .i64 ((rd_T70 l0_0 x14_1).f1), .int .i64 ((rd_T70 l0_0 x14_1).f2), .int .u64 ((rd_T70 l0_0 x14_1).f3.f0), .int .u64 0, .int .u64 0, .int .u64 0, .int .i64 0]) ?_ 4 _ rfl; (with_reducible repeat (first | refine blk_drewN ?_ _ | refine blk_drew ?_ | refine blk_alloc ?_ _)); refine blk_put (cs := #[.int .i64 ((rd_T70 l0_0 x14_1).f0), .int .i64 ((rd_T70 l0_0 x14_1).f1), .int .i64 ((rd_T70 l0_0 x14_1).f2), .int .u64 0, .int .u64 0, .int .u64 0, .int .u64 0, .int .i64 0]) ?_ 3 _ rfl; (with_reducible repeat (first | refine blk_drewN ?_ _ | refine blk_drew ?_ | refine blk_alloc ?_ _)); refine blk_put (cs := #[.int .i64 ((rd_T70 l0_0 x14_1).f0), .int .i64 ((rd_T70 l0_0 x14_1).f1), .int .i64 0, .int .u64 0, .int .u64 0, .int .u64 0, .int .u64 0, .int .i64 0]) ?_ 2 _ rfl; (with_reducible repeat (first | refine blk_drewN ?_ _ | refine blk_drew ?_ | refine blk_alloc ?_ _)); refine blk_put (cs := #[.int .i64 ((rd_T70 l0_0 x14_1).f0), .int .i64 0, .int .i64 0, .int .u64 0, .int .u64 0, .int .u64 0, .int .u64 0, .int .i64 0]) ?_ 1 _ rfl; (with_reducible repeat (first | refine blk_drewN ?_ _ | refine blk_drew ?_ | refine blk_alloc ?_ _)); refine blk_put (cs := #[.int .i64 0, .int .i64 0, .int .i64 0, .int .u64 0, .int .u64 0, .int .u64 0, .int .u64 0, .int .i64 0]) ?_ 0 _ rfl; (with_reducible repeat (first | refine blk_drewN ?_ _ | refine blk_drew ?_ | refine blk_alloc ?_ _)); exact BK106.out) hb); have n4_ := Aside0.mk (below_step (by repeat (first | (with_reducible first | exact HB.out | apply below_alloc | apply pw_below_drewN | apply below_drew1 | refine below_set ?_ GE101.out | refine below_set ?_ GE106.out) | exact HB.out)) hb); clear HO_3; clear BK101; clear BK106; clear HB; have HO_3 := n0_; have HO109 := n1_; have BK101 := n2_; have BK106 := n3_; have HB := n4_; clear n0_ n1_ n2_ n3_ n4_; clear hb ho17; obtain ⟨Ao19, co19, eo19⟩ := Kd.R_slice HO109.out; subst eo19) | ((with_reducible refine gate_builtin (b := .append) (xs := #[.tmp 18, .tmp 28]) rfl ?_); at_builtin; refine Kd.R_append_rows (Kd.int .u64) (w0 := w) w.heap.size rfl (.tmp 18) (.tmp 28) 112 31 (.int .u64 0) 8 rfl Try.underlying112 info31 rfl (by decide) (by omega) u3 x3_1 y107 _ _ _ (fun k_ => some k_ ≠ (.slice Ao19 y107.length co19 : Value).ownBlock) (fun _ => False) rfl rfl ?aO ?aR (fun _ _ h => h) (fun _ h => h.elim) ?aF ?aB ?aS ?aL ?_; (case aR => repeat (first | exact (Kd.R_reads' HO109.out).2.2 | (with_reducible refine Kd.C_alloc ?_ _) | (with_reducible refine Kd.C_drewN ?_ _) | (with_reducible refine Kd.C_drew ?_))); (case aB => exact (by repeat (first | (with_reducible first | exact HB.out | apply below_alloc | apply pw_below_drewN | apply below_drew1 | refine below_set ?_ GE101.out | refine below_set ?_ GE106.out) | exact HB.out))); (case aF => exact (fun k_ hk => Kd.fresh' (Kd.R_lt (by (with_reducible repeat (first | apply Kd.R_alloc | apply Kd.R_drewN | apply Kd.R_drew)); exact HO109.out)) k_ hk)); (case aO => exact (by (with_reducible repeat (first | apply Kd.R_alloc | apply Kd.R_drewN | apply Kd.R_drew)); exact Kd.R_mono HO_3.out (fun _ hk => hk.2))); (case aS => exact (below_size (by repeat (first | (with_reducible first | exact HB.out | apply below_alloc | apply pw_below_drewN | apply below_drew1 | refine below_set ?_ GE101.out | refine below_set ?_ GE106.out) | exact HB.out)))); (case aL => have := LMc10.out; omega); intro v111 w18 ho hb hg hat; rw [← Ny110.out] at ho; have n0_ := Aside0.mk (blk_grown (g := gb101) (o := .cells #[.slice (some ad105) l0_0.length c0_0, .int .i64 a0_1, .int .i64 a0_2] 26 (0, 0)) (by (with_reducible repeat (first | refine blk_drewN ?_ _ | refine blk_drew ?_ | refine blk_alloc ?_ _)); exact BK101.out) hg (Kd.R_ne HO_3.out BK101.out (by decide))); have n1_ := Aside0.mk (blk_grown (g := gb106) (o := .cells #[.int .i64 ((rd_T70 l0_0 x14_1).f0), .int .i64 ((rd_T70 l0_0 x14_1).f1), .int .i64 ((rd_T70 l0_0 x14_1).f2), .int .u64 ((rd_T70 l0_0 x14_1).f3.f0), .int .u64 ((rd_T70 l0_0 x14_1).f3.f1), .int .u64 ((rd_T70 l0_0 x14_1).f3.f2), .int .u64 ((rd_T70 l0_0 x14_1).f3.f3), .int .i64 ((rd_T70 l0_0 x14_1).f4)] 70 (0, 0)) (by (with_reducible repeat (first | refine blk_drewN ?_ _ | refine blk_drew ?_ | refine blk_alloc ?_ _)); exact BK106.out) hg (Kd.R_ne HO_3.out BK106.out (by decide))); have n2_ := Aside0.mk (Kd.R_after (ok := (fun _ => True)) (by (with_reducible repeat (first | apply Kd.R_alloc | apply Kd.R_drewN | apply Kd.R_drew)); exact HO109.out) hg hat); have n3_ := Aside0.mk (hb); have n4_ := Aside0.mk (ho); clear BK101; clear BK106; clear HO109; clear HB; clear HO_3; have BK101 := n0_; have BK106 := n1_; have HO109 := n2_; have HB := n3_; have HO112 := n4_; clear n0_ n1_ n2_ n3_ n4_; clear ho hb hg hat; obtain ⟨Ao20, co20, eo20⟩ := Kd.R_slice HO112.out; subst eo20))
                  have n0_ := Aside0.mk (Kd.R_drew HO109.out)
                  have n1_ := Aside0.mk (Kd.R_drew HO112.out)
                  have n2_ := Aside0.mk (blk_drew BK101.out)
                  have n3_ := Aside0.mk (blk_drew BK106.out)
                  have n4_ := Aside0.mk (below_drew1 HB.out)
                  clear HO109
                  clear HO112
                  clear BK101
                  clear BK106
                  clear HB
                  have HO109 := n0_
                  have HO112 := n1_
                  have BK101 := n2_
                  have BK106 := n3_
                  have HB := n4_
                  clear n0_ n1_ n2_ n3_ n4_
                  refine start_ (n := 10) (S := fun w' => w'.cell? ⟨gb106, 0, none⟩ = some (.int .i64 ((rd_T70 l0_0 x14_1).f0)) ∧ w'.cell? ⟨gb106, 1, none⟩ = some (.int .i64 ((rd_T70 l0_0 x14_1).f1)) ∧ w'.cell? ⟨gb106, 2, none⟩ = some (.int .i64 ((rd_T70 l0_0 x14_1).f2)) ∧ w'.cell? ⟨gb106, 3, none⟩ = some (.int .u64 ((rd_T70 l0_0 x14_1).f3.f0)) ∧ w'.cell? ⟨gb106, 4, none⟩ = some (.int .u64 ((rd_T70 l0_0 x14_1).f3.f1)) ∧ w'.cell? ⟨gb106, 5, none⟩ = some (.int .u64 ((rd_T70 l0_0 x14_1).f3.f2)) ∧ w'.cell? ⟨gb106, 6, none⟩ = some (.int .u64 ((rd_T70 l0_0 x14_1).f3.f3)) ∧ w'.cell? ⟨gb106, 7, none⟩ = some (.int .i64 ((rd_T70 l0_0 x14_1).f4))) (ds := []) #[false, false, false, false, false, false, false, false, false, false] (by kernel_rfl) rfl rfl ⟨(blk_cell BK106.out 0).trans rfl, (blk_cell BK106.out 1).trans rfl, (blk_cell BK106.out 2).trans rfl, (blk_cell BK106.out 3).trans rfl, (blk_cell BK106.out 4).trans rfl, (blk_cell BK106.out 5).trans rfl, (blk_cell BK106.out 6).trans rfl, (blk_cell BK106.out 7).trans rfl⟩ (fun hHeld => ?_); refine with_tabW key_Of.tab6 key_Of.bits6 (fun HT_ HW_ => ?_)
                  generalize w18.drew = w21 at HO109 HO112 BK101 BK106 HB hHeld ⊢
                  refine pure_ (i := 0) (N := some 30) (v := ?_) (a' := ?_) #[true, false, false, false, false, false, false, false, false, false] rfl rfl (any_of HT_.out (by kernel_rfl)) (fun _ _ _ h => h) (Or.inl ⟨by rfl, ?_⟩) ?_ ?_
                  rotate_left
                  · intro w'
                    go_simp
                    with_reducible rfl
                  rotate_left
                  · simp only [Act.put, List.setIfInBounds_toArray, List.set_cons_zero, List.set_cons_succ, i64_w, i32_w]
                    rfl
                  refine pure_ (i := 1) (N := some 31) (v := ?_) (a' := ?_) #[true, true, false, false, false, false, false, false, false, false] rfl rfl (any_of HT_.out (by kernel_rfl)) (fun _ _ _ h => h) (Or.inl ⟨by rfl, ?_⟩) ?_ ?_
                  rotate_left
                  · intro w'
                    go_simp
                    with_reducible rfl
                  rotate_left
                  · simp only [Act.put, List.setIfInBounds_toArray, List.set_cons_zero, List.set_cons_succ, i64_w, i32_w]
                    rfl
                  refine pure_ (i := 4) (N := some 34) (v := ?_) (a' := ?_) #[true, true, false, false, true, false, false, false, false, false] rfl rfl (any_of HT_.out (by kernel_rfl)) (fun _ _ _ h => h) (Or.inl ⟨by rfl, ?_⟩) ?_ ?_
                  rotate_left
                  · intro w'
                    go_simp
                    with_reducible rfl
                  rotate_left
                  · simp only [Act.put, List.setIfInBounds_toArray, List.set_cons_zero, List.set_cons_succ, i64_w, i32_w]
                    rfl
                  refine take_ (i := 5) (N := some 35) (v := ?_) (a' := ?_) #[true, true, false, false, true, true, false, false, false, false] rfl rfl (take_ofW HT_.out HW_.out (by kernel_rfl)) (fun _ _ _ h => h) (Or.inl ⟨by rfl, ?_⟩) hHeld ?_ ?_
                  rotate_left
                  · rintro w' ⟨s0, s1, s2, s3, s4, s5, s6, s7⟩
                    go_simp
                    with_reducible rfl
                  rotate_left
                  · simp only [Act.put, List.setIfInBounds_toArray, List.set_cons_zero, List.set_cons_succ, i64_w, i32_w]
                    rfl
                  refine pure_ (i := 6) (N := some 36) (v := ?_) (a' := ?_) #[true, true, false, false, true, true, true, false, false, false] rfl rfl (any_of HT_.out (by kernel_rfl)) (fun _ _ _ h => h) (Or.inl ⟨by rfl, ?_⟩) ?_ ?_
                  rotate_left
                  · intro w'
                    go_simp
                    with_reducible rfl
                  rotate_left
                  · simp only [Act.put, List.setIfInBounds_toArray, List.set_cons_zero, List.set_cons_succ, i64_w, i32_w]
                    rfl
                  refine pure_ (i := 2) (N := some 32) (v := ?_) (a' := ?_) #[true, true, true, false, true, true, true, false, false, false] rfl rfl (any_of HT_.out (by kernel_rfl)) (fun _ _ _ h => h) (Or.inl ⟨by rfl, ?_⟩) ?_ ?_
                  rotate_left
                  · intro w'
                    go_simp
                    with_reducible rfl
                  rotate_left
                  · simp only [Act.put, List.setIfInBounds_toArray, List.set_cons_zero, List.set_cons_succ, i64_w, i32_w]
                    rfl
                  have HO112' := Aside0.mk (Kd.R_mono (ok' := fun _ => True) HO112.out (fun _ _ => trivial))
                  clear HO109 HO112
                  have HO112 := HO112'
                  clear HO112'
                  refine join_ (σ := Value × Value) 2 #[true, true, true, true, true, true, true, true, false, false] (fun s_ => [(33, s_.1), (37, s_.2)]) (fun s_ w' => (w'.cell? ⟨gb106, 0, none⟩ = some (.int .i64 ((rd_T70 l0_0 x14_1).f0)) ∧ w'.cell? ⟨gb106, 1, none⟩ = some (.int .i64 ((rd_T70 l0_0 x14_1).f1)) ∧ w'.cell? ⟨gb106, 2, none⟩ = some (.int .i64 ((rd_T70 l0_0 x14_1).f2)) ∧ w'.cell? ⟨gb106, 3, none⟩ = some (.int .u64 ((rd_T70 l0_0 x14_1).f3.f0)) ∧ w'.cell? ⟨gb106, 4, none⟩ = some (.int .u64 ((rd_T70 l0_0 x14_1).f3.f1)) ∧ w'.cell? ⟨gb106, 5, none⟩ = some (.int .u64 ((rd_T70 l0_0 x14_1).f3.f2)) ∧ w'.cell? ⟨gb106, 6, none⟩ = some (.int .u64 ((rd_T70 l0_0 x14_1).f3.f3)) ∧ w'.cell? ⟨gb106, 7, none⟩ = some (.int .i64 ((rd_T70 l0_0 x14_1).f4))) ∧ (Kd.R (Kd.int .u64) 31 w' w.heap.size (fun k_ => some k_ ≠ (s_.2 : Value).ownBlock) s_.1 y116) ∧ (Kd.R (Kd.int .u64) 31 w' w.heap.size (fun k_ => some k_ ≠ (s_.1 : Value).ownBlock) s_.2 y119) ∧ (w'.heap[gb101]? = some (.cells #[.slice (some ad105) l0_0.length c0_0, .int .i64 a0_1, .int .i64 a0_2] 26 (0, 0))) ∧ (w'.heap[gb106]? = some (.cells #[.int .i64 ((rd_T70 l0_0 x14_1).f0), .int .i64 ((rd_T70 l0_0 x14_1).f1), .int .i64 ((rd_T70 l0_0 x14_1).f2), .int .u64 ((rd_T70 l0_0 x14_1).f3.f0), .int .u64 ((rd_T70 l0_0 x14_1).f3.f1), .int .u64 ((rd_T70 l0_0 x14_1).f3.f2), .int .u64 ((rd_T70 l0_0 x14_1).f3.f3), .int .i64 ((rd_T70 l0_0 x14_1).f4)] 70 (0, 0))) ∧ (Below w.heap.size w w')) ?_ ?_
                  rotate_left
                  · intro hCont
                    refine two_ (i := 3) (j := 7) (Ni := some 33) (Nj := some 37) #[true, true, true, true, true, true, true, false, false, false] #[true, true, true, false, true, true, true, true, false, false] rfl rfl rfl rfl (two_of HT_.out (by kernel_rfl)) (by decide) (by decide) (fun K hK => ?_) (fun K hK => ?_)
                    · skip
                      refine Kd.R_append_rows_step (Kd.int .u64) (w0 := w) w.heap.size (by rfl) (.tmp 30) (.tmp 32) 112 31 (.int .u64 0) 8 rfl Try.underlying112 info31 rfl (by decide) (by omega) (.slice Ao20 y110.length co20) y110 y113 (some ⟨gb106, 3, none⟩) 4 4 (fun _ => True) (fun _ => False) rfl rfl ?aO ?aR (fun _ _ h => h) (fun _ h => h.elim) ?aF ?aB ?aS ?aL ?_
                      (case aR => exact C_of_blk (off := 3) (by (with_reducible repeat (first | refine blk_drewN ?_ _ | refine blk_drew ?_ | refine blk_alloc ?_ _)); exact BK106.out) (by rw [Ny113.out]; rfl) (by omega) (by rw [Ny113.out]; intro j x hx; match j, hx with | 0, hx => exact (by simpa using hx) | 1, hx => exact (by simpa using hx) | 2, hx => exact (by simpa using hx) | 3, hx => exact (by simpa using hx)))
                      (case aB => exact (by repeat (first | (with_reducible first | exact HB.out | apply below_alloc | apply pw_below_drewN | apply below_drew1 | refine below_set ?_ GE101.out | refine below_set ?_ GE106.out) | exact HB.out)))
                      (case aF => exact (fun _ _ => trivial))
                      (case aO => exact (by (with_reducible repeat (first | apply Kd.R_alloc | apply Kd.R_drewN | apply Kd.R_drew)); exact HO112.out))
                      (case aS => exact (below_size (by repeat (first | (with_reducible first | exact HB.out | apply below_alloc | apply pw_below_drewN | apply below_drew1 | refine below_set ?_ GE101.out | refine below_set ?_ GE106.out) | exact HB.out))))
                      (case aL => have := LMc11.out; rw [Ny113.out] at this; simp at this; omega)
                      intro v117 w24 ho hb hg hat
                      rw [← Ny116.out] at ho
                      have n0_ := Aside0.mk (blk_grown (g := gb101) (o := .cells #[.slice (some ad105) l0_0.length c0_0, .int .i64 a0_1, .int .i64 a0_2] 26 (0, 0)) (by (with_reducible repeat (first | refine blk_drewN ?_ _ | refine blk_drew ?_ | refine blk_alloc ?_ _)); exact BK101.out) hg (Kd.R_ne HO112.out BK101.out (by decide)))
                      have n1_ := Aside0.mk (blk_grown (g := gb106) (o := .cells #[.int .i64 ((rd_T70 l0_0 x14_1).f0), .int .i64 ((rd_T70 l0_0 x14_1).f1), .int .i64 ((rd_T70 l0_0 x14_1).f2), .int .u64 ((rd_T70 l0_0 x14_1).f3.f0), .int .u64 ((rd_T70 l0_0 x14_1).f3.f1), .int .u64 ((rd_T70 l0_0 x14_1).f3.f2), .int .u64 ((rd_T70 l0_0 x14_1).f3.f3), .int .i64 ((rd_T70 l0_0 x14_1).f4)] 70 (0, 0)) (by (with_reducible repeat (first | refine blk_drewN ?_ _ | refine blk_drew ?_ | refine blk_alloc ?_ _)); exact BK106.out) hg (Kd.R_ne HO112.out BK106.out (by decide)))
                      have n4_ := Aside0.mk hb
                      have n5_ := Aside0.mk ho
                      clear BK101 BK106 HB HO112
                      have BK101 := n0_
                      have BK106 := n1_
                      have HB := n4_
                      have HO118 := n5_
                      clear n0_ n1_ n4_ n5_
                      clear ho hb hg hat
                      refine hK.out _ _ ⟨(blk_cell BK106.out 0).trans rfl, (blk_cell BK106.out 1).trans rfl, (blk_cell BK106.out 2).trans rfl, (blk_cell BK106.out 3).trans rfl, (blk_cell BK106.out 4).trans rfl, (blk_cell BK106.out 5).trans rfl, (blk_cell BK106.out 6).trans rfl, (blk_cell BK106.out 7).trans rfl⟩ (fun hHeld => ?_)
                      clear hK K
                      refine norm_ (a' := ?_) ?_ ?_
                      rotate_left
                      · show Act.put _ (some 33) _ = _
                        simp only [Act.put, List.setIfInBounds_toArray, List.set_cons_zero, List.set_cons_succ, i64_w, i32_w]
                        rfl
                      refine one_ (i := 7) (N := some 37) #[true, true, true, true, true, true, true, true, false, false] rfl rfl (one_of HT_.out (by kernel_rfl)) (by decide) (fun K hK => ?_)
                      refine Kd.R_lit_step (Kd.int .u64) _ 31 ?hg (N := 37) ?hd (xs := ([IntKind.u64.wrap ((rd_T70 l0_0 x14_1).f4)] : List Int)) (inner := [.int .u64 (IntKind.u64.wrap ((rd_T70 l0_0 x14_1).f4))]) (ok := fun _ => True) (okp := fun _ => True) ?hr ?hp (fun _ hk => hk) trivial (Below.refl _ _) (Nat.le_refl _) (by simp) ?_; (case hd => rfl); (case hg => rfl); (case hr => first | (go_simp; done) | (go_simp; rfl)); (case hp => exact (Reps.one (show Kd.M (Kd.int .u64) _ _ _ (IntKind.u64.wrap ((rd_T70 l0_0 x14_1).f4)) [.int .u64 (IntKind.u64.wrap ((rd_T70 l0_0 x14_1).f4))] from rfl) (Reps.none _ _)))
                      intro v120 w26 ho27 hb hg_ hnew_
                      clear hg_ hnew_
                      (first | rw [← Ny119.out] at ho27 | (simp only [Int.reduceToNat] at ho27; rw [← Ny119.out] at ho27))
                      have n2_ := Aside0.mk (Kd.R_elder' (by (with_reducible repeat (first | apply Kd.R_alloc | apply Kd.R_drewN | apply Kd.R_drew)); exact HO118.out) (Kd.R_base ho27) hb)
                      have n3_ := Aside0.mk (Kd.R_lower (Kd.R_new' ho27 (Kd.R_lt (by (with_reducible repeat (first | apply Kd.R_alloc | apply Kd.R_drewN | apply Kd.R_drew)); exact HO118.out))) (below_size (by repeat (first | (with_reducible first | exact HB.out | apply below_alloc | apply pw_below_drewN | apply below_drew1 | refine below_set ?_ GE101.out | refine below_set ?_ GE106.out) | exact HB.out))))
                      have n4_ := Aside0.mk (blk_below (g := gb101) (o := .cells #[.slice (some ad105) l0_0.length c0_0, .int .i64 a0_1, .int .i64 a0_2] 26 (0, 0)) (by (with_reducible repeat (first | refine blk_drewN ?_ _ | refine blk_drew ?_ | refine blk_alloc ?_ _)); exact BK101.out) hb)
                      have n5_ := Aside0.mk (blk_below (g := gb106) (o := .cells #[.int .i64 ((rd_T70 l0_0 x14_1).f0), .int .i64 ((rd_T70 l0_0 x14_1).f1), .int .i64 ((rd_T70 l0_0 x14_1).f2), .int .u64 ((rd_T70 l0_0 x14_1).f3.f0), .int .u64 ((rd_T70 l0_0 x14_1).f3.f1), .int .u64 ((rd_T70 l0_0 x14_1).f3.f2), .int .u64 ((rd_T70 l0_0 x14_1).f3.f3), .int .i64 ((rd_T70 l0_0 x14_1).f4)] 70 (0, 0)) (by (with_reducible repeat (first | refine blk_drewN ?_ _ | refine blk_drew ?_ | refine blk_alloc ?_ _)); exact BK106.out) hb)
                      have n6_ := Aside0.mk (below_step (by repeat (first | (with_reducible first | exact HB.out | apply below_alloc | apply pw_below_drewN | apply below_drew1 | refine below_set ?_ GE101.out | refine below_set ?_ GE106.out) | exact HB.out)) hb)
                      clear HO118 BK101 BK106 HB
                      have HO118 := n2_
                      have HO121 := n3_
                      have BK101 := n4_
                      have BK106 := n5_
                      have HB := n6_
                      clear n2_ n3_ n4_ n5_ n6_
                      clear hb ho27
                      refine hK.out _ _ ⟨(blk_cell BK106.out 0).trans rfl, (blk_cell BK106.out 1).trans rfl, (blk_cell BK106.out 2).trans rfl, (blk_cell BK106.out 3).trans rfl, (blk_cell BK106.out 4).trans rfl, (blk_cell BK106.out 5).trans rfl, (blk_cell BK106.out 6).trans rfl, (blk_cell BK106.out 7).trans rfl⟩ (fun hHeld => ?_)
                      clear hK K
                      refine norm_ (a' := ?_) ?_ ?_
                      rotate_left
                      · show Act.put _ (some 37) _ = _
                        simp only [Act.put, List.setIfInBounds_toArray, List.set_cons_zero, List.set_cons_succ, i64_w, i32_w]
                        rfl
                      exact norm_ (by simp only [putAll, Act.put, List.setIfInBounds_toArray, List.set_cons_zero, List.set_cons_succ]) (hCont (v117, v120) _ ⟨hHeld, (by (with_reducible repeat (first | apply Kd.R_alloc | apply Kd.R_drewN | apply Kd.R_drew)); exact Kd.R_mono HO118.out (fun _ hk => hk.2)), (by (with_reducible repeat (first | apply Kd.R_alloc | apply Kd.R_drewN | apply Kd.R_drew)); exact Kd.R_mono HO121.out (fun _ hk => hk.2)), (by (with_reducible repeat (first | refine blk_drewN ?_ _ | refine blk_drew ?_ | refine blk_alloc ?_ _)); exact BK101.out), (by (with_reducible repeat (first | refine blk_drewN ?_ _ | refine blk_drew ?_ | refine blk_alloc ?_ _)); exact BK106.out), (by repeat (first | (with_reducible first | exact HB.out | apply below_alloc | apply pw_below_drewN | apply below_drew1 | refine below_set ?_ GE101.out | refine below_set ?_ GE106.out) | exact HB.out))⟩)
                    · skip
                      refine Kd.R_lit_step (Kd.int .u64) _ 31 ?hg (N := 37) ?hd (xs := ([IntKind.u64.wrap ((rd_T70 l0_0 x14_1).f4)] : List Int)) (inner := [.int .u64 (IntKind.u64.wrap ((rd_T70 l0_0 x14_1).f4))]) (ok := fun _ => True) (okp := fun _ => True) ?hr ?hp (fun _ hk => hk) trivial (Below.refl _ _) (Nat.le_refl _) (by simp) ?_; (case hd => rfl); (case hg => rfl); (case hr => first | (go_simp; done) | (go_simp; rfl)); (case hp => exact (Reps.one (show Kd.M (Kd.int .u64) _ _ _ (IntKind.u64.wrap ((rd_T70 l0_0 x14_1).f4)) [.int .u64 (IntKind.u64.wrap ((rd_T70 l0_0 x14_1).f4))] from rfl) (Reps.none _ _)))
                      intro v120 w26 ho27 hb hg_ hnew_
                      clear hg_ hnew_
                      (first | rw [← Ny119.out] at ho27 | (simp only [Int.reduceToNat] at ho27; rw [← Ny119.out] at ho27))
                      have n2_ := Aside0.mk (Kd.R_elder' (by (with_reducible repeat (first | apply Kd.R_alloc | apply Kd.R_drewN | apply Kd.R_drew)); exact HO112.out) (Kd.R_base ho27) hb)
                      have n3_ := Aside0.mk (Kd.R_lower (Kd.R_new' ho27 (Kd.R_lt (by (with_reducible repeat (first | apply Kd.R_alloc | apply Kd.R_drewN | apply Kd.R_drew)); exact HO112.out))) (below_size (by repeat (first | (with_reducible first | exact HB.out | apply below_alloc | apply pw_below_drewN | apply below_drew1 | refine below_set ?_ GE101.out | refine below_set ?_ GE106.out) | exact HB.out))))
                      have n4_ := Aside0.mk (blk_below (g := gb101) (o := .cells #[.slice (some ad105) l0_0.length c0_0, .int .i64 a0_1, .int .i64 a0_2] 26 (0, 0)) (by (with_reducible repeat (first | refine blk_drewN ?_ _ | refine blk_drew ?_ | refine blk_alloc ?_ _)); exact BK101.out) hb)
                      have n5_ := Aside0.mk (blk_below (g := gb106) (o := .cells #[.int .i64 ((rd_T70 l0_0 x14_1).f0), .int .i64 ((rd_T70 l0_0 x14_1).f1), .int .i64 ((rd_T70 l0_0 x14_1).f2), .int .u64 ((rd_T70 l0_0 x14_1).f3.f0), .int .u64 ((rd_T70 l0_0 x14_1).f3.f1), .int .u64 ((rd_T70 l0_0 x14_1).f3.f2), .int .u64 ((rd_T70 l0_0 x14_1).f3.f3), .int .i64 ((rd_T70 l0_0 x14_1).f4)] 70 (0, 0)) (by (with_reducible repeat (first | refine blk_drewN ?_ _ | refine blk_drew ?_ | refine blk_alloc ?_ _)); exact BK106.out) hb)
                      have n6_ := Aside0.mk (below_step (by repeat (first | (with_reducible first | exact HB.out | apply below_alloc | apply pw_below_drewN | apply below_drew1 | refine below_set ?_ GE101.out | refine below_set ?_ GE106.out) | exact HB.out)) hb)
                      clear HO112 BK101 BK106 HB
                      have HO112 := Aside0.mk (Kd.R_mono (ok' := fun k_ => some k_ ≠ (v120 : Value).ownBlock) n2_.out (fun _ hk => hk.2))
                      have HO121 := n3_
                      have BK101 := n4_
                      have BK106 := n5_
                      have HB := n6_
                      clear n2_ n3_ n4_ n5_ n6_
                      clear hb ho27
                      refine hK.out _ _ ⟨(blk_cell BK106.out 0).trans rfl, (blk_cell BK106.out 1).trans rfl, (blk_cell BK106.out 2).trans rfl, (blk_cell BK106.out 3).trans rfl, (blk_cell BK106.out 4).trans rfl, (blk_cell BK106.out 5).trans rfl, (blk_cell BK106.out 6).trans rfl, (blk_cell BK106.out 7).trans rfl⟩ (fun hHeld => ?_)
                      clear hK K
                      refine norm_ (a' := ?_) ?_ ?_
                      rotate_left
                      · show Act.put _ (some 37) _ = _
                        simp only [Act.put, List.setIfInBounds_toArray, List.set_cons_zero, List.set_cons_succ, i64_w, i32_w]
                        rfl
                      refine one_ (i := 3) (N := some 33) #[true, true, true, true, true, true, true, true, false, false] rfl rfl (one_of HT_.out (by kernel_rfl)) (by decide) (fun K hK => ?_)
                      refine Kd.R_append_rows_step (Kd.int .u64) (w0 := w) w.heap.size (by rfl) (.tmp 30) (.tmp 32) 112 31 (.int .u64 0) 8 rfl Try.underlying112 info31 rfl (by decide) (by omega) (.slice Ao20 y110.length co20) y110 y113 (some ⟨gb106, 3, none⟩) 4 4 (fun k_ => some k_ ≠ (v120 : Value).ownBlock) (fun _ => False) rfl rfl ?aO ?aR (fun _ _ h => h) (fun _ h => h.elim) ?aF ?aB ?aS ?aL ?_
                      (case aR => exact C_of_blk (off := 3) (by (with_reducible repeat (first | refine blk_drewN ?_ _ | refine blk_drew ?_ | refine blk_alloc ?_ _)); exact BK106.out) (by rw [Ny113.out]; rfl) (by omega) (by rw [Ny113.out]; intro j x hx; match j, hx with | 0, hx => exact (by simpa using hx) | 1, hx => exact (by simpa using hx) | 2, hx => exact (by simpa using hx) | 3, hx => exact (by simpa using hx)))
                      (case aB => exact (by repeat (first | (with_reducible first | exact HB.out | apply below_alloc | apply pw_below_drewN | apply below_drew1 | refine below_set ?_ GE101.out | refine below_set ?_ GE106.out) | exact HB.out)))
                      (case aF => exact (fun k_ hk => Kd.fresh' (Kd.R_lt (by (with_reducible repeat (first | apply Kd.R_alloc | apply Kd.R_drewN | apply Kd.R_drew)); exact HO121.out)) k_ hk))
                      (case aO => exact (by (with_reducible repeat (first | apply Kd.R_alloc | apply Kd.R_drewN | apply Kd.R_drew)); exact HO112.out))
                      (case aS => exact (below_size (by repeat (first | (with_reducible first | exact HB.out | apply below_alloc | apply pw_below_drewN | apply below_drew1 | refine below_set ?_ GE101.out | refine below_set ?_ GE106.out) | exact HB.out))))
                      (case aL => have := LMc11.out; rw [Ny113.out] at this; simp at this; omega)
                      intro v117 w24 ho hb hg hat
                      rw [← Ny116.out] at ho
                      have n0_ := Aside0.mk (blk_grown (g := gb101) (o := .cells #[.slice (some ad105) l0_0.length c0_0, .int .i64 a0_1, .int .i64 a0_2] 26 (0, 0)) (by (with_reducible repeat (first | refine blk_drewN ?_ _ | refine blk_drew ?_ | refine blk_alloc ?_ _)); exact BK101.out) hg (Kd.R_ne HO112.out BK101.out (by decide)))
                      have n1_ := Aside0.mk (blk_grown (g := gb106) (o := .cells #[.int .i64 ((rd_T70 l0_0 x14_1).f0), .int .i64 ((rd_T70 l0_0 x14_1).f1), .int .i64 ((rd_T70 l0_0 x14_1).f2), .int .u64 ((rd_T70 l0_0 x14_1).f3.f0), .int .u64 ((rd_T70 l0_0 x14_1).f3.f1), .int .u64 ((rd_T70 l0_0 x14_1).f3.f2), .int .u64 ((rd_T70 l0_0 x14_1).f3.f3), .int .i64 ((rd_T70 l0_0 x14_1).f4)] 70 (0, 0)) (by (with_reducible repeat (first | refine blk_drewN ?_ _ | refine blk_drew ?_ | refine blk_alloc ?_ _)); exact BK106.out) hg (Kd.R_ne HO112.out BK106.out (by decide)))
                      have n3_ := Aside0.mk (Kd.R_after (ok := (fun _ => True)) (by (with_reducible repeat (first | apply Kd.R_alloc | apply Kd.R_drewN | apply Kd.R_drew)); exact Kd.R_mono HO121.out (fun _ hk => ⟨trivial, hk.2⟩)) hg hat)
                      have n4_ := Aside0.mk hb
                      have n5_ := Aside0.mk ho
                      clear BK101 BK106 HB HO112 HO121
                      have BK101 := n0_
                      have BK106 := n1_
                      have HB := n4_
                      have HO118 := n5_
                      have HO121 := n3_
                      clear n3_
                      clear n0_ n1_ n4_ n5_
                      clear ho hb hg hat
                      refine hK.out _ _ ⟨(blk_cell BK106.out 0).trans rfl, (blk_cell BK106.out 1).trans rfl, (blk_cell BK106.out 2).trans rfl, (blk_cell BK106.out 3).trans rfl, (blk_cell BK106.out 4).trans rfl, (blk_cell BK106.out 5).trans rfl, (blk_cell BK106.out 6).trans rfl, (blk_cell BK106.out 7).trans rfl⟩ (fun hHeld => ?_)
                      clear hK K
                      refine norm_ (a' := ?_) ?_ ?_
                      rotate_left
                      · show Act.put _ (some 33) _ = _
                        simp only [Act.put, List.setIfInBounds_toArray, List.set_cons_zero, List.set_cons_succ, i64_w, i32_w]
                        rfl
                      exact norm_ (by simp only [putAll, Act.put, List.setIfInBounds_toArray, List.set_cons_zero, List.set_cons_succ]) (hCont (v117, v120) _ ⟨hHeld, (by (with_reducible repeat (first | apply Kd.R_alloc | apply Kd.R_drewN | apply Kd.R_drew)); exact Kd.R_mono HO118.out (fun _ hk => hk)), (by (with_reducible repeat (first | apply Kd.R_alloc | apply Kd.R_drewN | apply Kd.R_drew)); exact Kd.R_mono HO121.out (fun _ hk => hk.2)), (by (with_reducible repeat (first | refine blk_drewN ?_ _ | refine blk_drew ?_ | refine blk_alloc ?_ _)); exact BK101.out), (by (with_reducible repeat (first | refine blk_drewN ?_ _ | refine blk_drew ?_ | refine blk_alloc ?_ _)); exact BK106.out), (by repeat (first | (with_reducible first | exact HB.out | apply below_alloc | apply pw_below_drewN | apply below_drew1 | refine below_set ?_ GE101.out | refine below_set ?_ GE106.out) | exact HB.out))⟩)
                  rintro ⟨v117, v120⟩ w28 ⟨hS_, h1_, h2_, h3_, h4_, h5_⟩
                  have n1_ := Aside0.mk h1_
                  have n2_ := Aside0.mk h2_
                  have n3_ := Aside0.mk h3_
                  have n4_ := Aside0.mk h4_
                  have n5_ := Aside0.mk h5_
                  clear HO112 BK101 BK106 HB h1_ h2_ h3_ h4_ h5_
                  have HO118 := n1_
                  have HO121 := n2_
                  have BK101 := n3_
                  have BK106 := n4_
                  have HB := n5_
                  clear n1_ n2_ n3_ n4_ n5_
                  have hHeld : w28.cell? ⟨gb106, 0, none⟩ = some (.int .i64 ((rd_T70 l0_0 x14_1).f0)) ∧ w28.cell? ⟨gb106, 1, none⟩ = some (.int .i64 ((rd_T70 l0_0 x14_1).f1)) ∧ w28.cell? ⟨gb106, 2, none⟩ = some (.int .i64 ((rd_T70 l0_0 x14_1).f2)) ∧ w28.cell? ⟨gb106, 3, none⟩ = some (.int .u64 ((rd_T70 l0_0 x14_1).f3.f0)) ∧ w28.cell? ⟨gb106, 4, none⟩ = some (.int .u64 ((rd_T70 l0_0 x14_1).f3.f1)) ∧ w28.cell? ⟨gb106, 5, none⟩ = some (.int .u64 ((rd_T70 l0_0 x14_1).f3.f2)) ∧ w28.cell? ⟨gb106, 6, none⟩ = some (.int .u64 ((rd_T70 l0_0 x14_1).f3.f3)) ∧ w28.cell? ⟨gb106, 7, none⟩ = some (.int .i64 ((rd_T70 l0_0 x14_1).f4)) := hS_
                  obtain ⟨Ao30, co30, eo30⟩ := Kd.R_slice HO121.out
                  subst eo30
                  refine norm_ (a' := ?_) ?_ ?_
                  rotate_left
                  · simp only [putAll, Act.put, List.setIfInBounds_toArray, List.set_cons_zero, List.set_cons_succ]
                    rfl
                  refine one_ (i := 8) (N := some 38) #[true, true, true, true, true, true, true, true, true, false] rfl rfl (one_of HT_.out (by kernel_rfl)) (by decide) (fun K hK => ?_)
                  refine Kd.R_append_rows_step (Kd.int .u64) (w0 := w) w.heap.size (by rfl) (.tmp 33) (.tmp 37) 112 31 (.int .u64 0) 8 rfl Try.underlying112 info31 rfl (by decide) (by omega) v117 y116 y119 _ _ _ (fun k_ => some k_ ≠ (.slice Ao30 y119.length co30 : Value).ownBlock) (fun _ => False) rfl rfl ?aO ?aR (fun _ _ h => h) (fun _ h => h.elim) ?aF ?aB ?aS ?aL ?_
                  (case aR => repeat (first | exact (Kd.R_reads' HO121.out).2.2 | (with_reducible refine Kd.C_alloc ?_ _) | (with_reducible refine Kd.C_drewN ?_ _) | (with_reducible refine Kd.C_drew ?_)))
                  (case aB => exact (by repeat (first | (with_reducible first | exact HB.out | apply below_alloc | apply pw_below_drewN | apply below_drew1 | refine below_set ?_ GE101.out | refine below_set ?_ GE106.out) | exact HB.out)))
                  (case aF => exact (fun k_ hk => Kd.fresh' (Kd.R_lt (by (with_reducible repeat (first | apply Kd.R_alloc | apply Kd.R_drewN | apply Kd.R_drew)); exact HO121.out)) k_ hk))
                  (case aO => exact (by (with_reducible repeat (first | apply Kd.R_alloc | apply Kd.R_drewN | apply Kd.R_drew)); exact HO118.out))
                  (case aS => exact (below_size (by repeat (first | (with_reducible first | exact HB.out | apply below_alloc | apply pw_below_drewN | apply below_drew1 | refine below_set ?_ GE101.out | refine below_set ?_ GE106.out) | exact HB.out))))
                  (case aL => have := LMc12.out; omega)
                  intro v123 w29 ho hb hg hat
                  rw [← Ny122.out] at ho
                  have n0_ := Aside0.mk (blk_grown (g := gb101) (o := .cells #[.slice (some ad105) l0_0.length c0_0, .int .i64 a0_1, .int .i64 a0_2] 26 (0, 0)) (by (with_reducible repeat (first | refine blk_drewN ?_ _ | refine blk_drew ?_ | refine blk_alloc ?_ _)); exact BK101.out) hg (Kd.R_ne HO118.out BK101.out (by decide)))
                  have n1_ := Aside0.mk (blk_grown (g := gb106) (o := .cells #[.int .i64 ((rd_T70 l0_0 x14_1).f0), .int .i64 ((rd_T70 l0_0 x14_1).f1), .int .i64 ((rd_T70 l0_0 x14_1).f2), .int .u64 ((rd_T70 l0_0 x14_1).f3.f0), .int .u64 ((rd_T70 l0_0 x14_1).f3.f1), .int .u64 ((rd_T70 l0_0 x14_1).f3.f2), .int .u64 ((rd_T70 l0_0 x14_1).f3.f3), .int .i64 ((rd_T70 l0_0 x14_1).f4)] 70 (0, 0)) (by (with_reducible repeat (first | refine blk_drewN ?_ _ | refine blk_drew ?_ | refine blk_alloc ?_ _)); exact BK106.out) hg (Kd.R_ne HO118.out BK106.out (by decide)))
                  have n5_ := Aside0.mk (hb)
                  have n6_ := Aside0.mk (ho)
                  clear BK101
                  clear BK106
                  clear HB
                  clear HO118
                  have BK101 := n0_
                  have BK106 := n1_
                  have HB := n5_
                  have HO124 := n6_
                  clear n0_ n1_ n5_ n6_
                  clear ho hb hg hat
                  refine hK.out _ _ ⟨(blk_cell BK106.out 0).trans rfl, (blk_cell BK106.out 1).trans rfl, (blk_cell BK106.out 2).trans rfl, (blk_cell BK106.out 3).trans rfl, (blk_cell BK106.out 4).trans rfl, (blk_cell BK106.out 5).trans rfl, (blk_cell BK106.out 6).trans rfl, (blk_cell BK106.out 7).trans rfl⟩ (fun hHeld => ?_)
                  clear hK K
                  refine norm_ (a' := ?_) ?_ ?_
                  rotate_left
                  · show Act.put _ (some 38) _ = _
                    simp only [Act.put, List.setIfInBounds_toArray, List.set_cons_zero, List.set_cons_succ, i64_w, i32_w]
                    rfl
                  refine pure_ (i := 9) (N := some 3) (v := ?_) (a' := ?_) #[true, true, true, true, true, true, true, true, true, true] rfl rfl (any_of HT_.out (by kernel_rfl)) (fun _ _ _ h => h) (Or.inl ⟨by rfl, ?_⟩) ?_ ?_
                  rotate_left
                  · intro w'
                    go_simp
                    with_reducible rfl
                  rotate_left
                  · simp only [Act.put, List.setIfInBounds_toArray, List.set_cons_zero, List.set_cons_succ, i64_w, i32_w]
                    rfl
                  refine done_ (done_of HT_.out (by kernel_rfl)) ?_
                  try go_wp2
                  go_roundg k1
                  case measure => have := HK1.out; omega
                  case rel => exact ⟨(y122), (wrap64 (x14_1 + 1)), (by first | rfl | (simp; done) | (simp [*]; done)), H', ⟨by have := HK1.out; omega⟩, ⟨by (with_reducible repeat (first | apply Kd.R_alloc | apply Kd.R_drewN | apply Kd.R_drew)); exact Kd.R_mono HO124.out (fun _ hk => trivial)⟩, ⟨by (with_reducible repeat (first | refine blk_drewN ?_ _ | refine blk_drew ?_ | refine blk_alloc ?_ _)); exact BK101.out⟩, ⟨by repeat (first | (with_reducible first | exact HB.out | apply below_alloc | apply pw_below_drewN | apply below_drew1 | refine below_set ?_ GE101.out | refine below_set ?_ GE106.out) | exact HB.out)⟩⟩
                · rw [if_neg c12] at H
                  exact absurd H (by simp)
              · rw [if_neg c11] at H
                exact absurd H (by simp)
            · rw [if_neg c10] at H
              exact absurd H (by simp)
          · rw [if_neg c9] at H
            exact absurd H (by simp)
        · rw [if_neg c8] at H
          exact absurd H (by simp)
      · rw [if_neg c7] at H
        have c7b0 : decide (x14_1 < (l0_0.length : Int)) = false := decide_eq_false c7
        clear c7
        obtain ⟨y125, hy125⟩ : ∃ y_ : List Int, y_ = (([IntKind.u64.wrap (a0_1), IntKind.u64.wrap (a0_2)] : List Int)) := ⟨_, rfl⟩
        replace H : (if x3_1.length + y125.length < 17592186044416 then ((wire_Put.f k1 (x3_1 ++ y125)).bind fun t131 => (some (strOfNums t131))) else (none)) = some r := by first | (rw [hy125]; with_reducible exact H) | (have H2_ := (Option.bind_some _ _).symm.trans H; rw [hy125]; with_reducible exact H2_) | (have H2_ := (Option.bind_some _ _).symm.trans H; with_reducible exact H2_) | with_reducible exact H | (rw [hy125]; exact H) | exact H
        have Ny125 := Aside0.mk hy125
        clear hy125
        by_cases c31 : x3_1.length + y125.length < 17592186044416
        · rw [if_pos c31] at H
          have LMc31 := Aside0.mk c31
          clear c31
          obtain ⟨y128, hy128⟩ : ∃ y_ : List Int, y_ = (x3_1 ++ y125) := ⟨_, rfl⟩
          replace H : ((wire_Put.f k1 y128).bind fun t131 => (some (strOfNums t131))) = some r := by first | (rw [hy128]; with_reducible exact H) | (have H2_ := (Option.bind_some _ _).symm.trans H; rw [hy128]; with_reducible exact H2_) | (have H2_ := (Option.bind_some _ _).symm.trans H; with_reducible exact H2_) | with_reducible exact H | (rw [hy128]; exact H) | exact H
          have Ny128 := Aside0.mk hy128
          clear hy128
          replace H := Option.bind_eq_some_iff.mp H
          obtain ⟨t131, A320, H⟩ := H
          replace H : (some (strOfNums t131)) = some r := H
          have A32 := Aside0.mk A320
          clear A320
          obtain rfl := Option.some.inj H
          have hcz33_0 : wr.cell? ⟨gb101, 0, none⟩ = some (.slice A0_0 l0_0.length c0_0) := (blk_cell BK101.out 0).trans rfl
          have hcz33_1 : wr.cell? ⟨gb101, 1, none⟩ = some (.int .i64 a0_1) := (blk_cell BK101.out 1).trans rfl
          have hcz33_2 : wr.cell? ⟨gb101, 2, none⟩ = some (.int .i64 a0_2) := (blk_cell BK101.out 2).trans rfl
          have hfz33_0 := blk_frozen BK101.out 0
          have hfz33_1 := blk_frozen BK101.out 1
          have hfz33_2 := blk_frozen BK101.out 2
          go_wp2_with (first | ((with_reducible refine gate_dst (N := 47) rfl ?_); refine Kd.R_lit (Kd.int .u64) _ 31 ?hg (N := 47) ?hd (xs := ([IntKind.u64.wrap (a0_1), IntKind.u64.wrap (a0_2)] : List Int)) (inner := [.int .u64 (IntKind.u64.wrap (a0_1)), .int .u64 (IntKind.u64.wrap (a0_2))]) (ok := fun _ => True) (okp := fun _ => True) ?hr ?hp (fun _ hk => hk) trivial (Below.refl _ _) (Nat.le_refl _) (by simp) ?_; (case hd => rfl); (case hg => rfl); (case hr => first | (go_simp; done) | (go_simp; rfl)); (case hp => exact (Reps.one (show Kd.M (Kd.int .u64) _ _ _ (IntKind.u64.wrap (a0_1)) [.int .u64 (IntKind.u64.wrap (a0_1))] from rfl) (Reps.one (show Kd.M (Kd.int .u64) _ _ _ (IntKind.u64.wrap (a0_2)) [.int .u64 (IntKind.u64.wrap (a0_2))] from rfl) (Reps.none _ _)))); intro v126 w34 ho35 hb hg_ hnew_; clear hg_ hnew_; (first | rw [← Ny125.out] at ho35 | (simp only [Int.reduceToNat] at ho35; rw [← Ny125.out] at ho35)); have n0_ := Aside0.mk (Kd.R_elder' (by (with_reducible repeat (first | apply Kd.R_alloc | apply Kd.R_drewN | apply Kd.R_drew)); exact HO_3.out) (Kd.R_base ho35) hb); have n1_ := Aside0.mk (Kd.R_lower (Kd.R_new' ho35 (Kd.R_lt (by (with_reducible repeat (first | apply Kd.R_alloc | apply Kd.R_drewN | apply Kd.R_drew)); exact HO_3.out))) (below_size (by repeat (first | (with_reducible first | exact HB.out | apply below_alloc | apply pw_below_drewN | apply below_drew1 | refine below_set ?_ GE101.out) | exact HB.out)))); have n2_ := Aside0.mk (blk_below (g := gb101) (o := .cells #[.slice A0_0 l0_0.length c0_0, .int .i64 a0_1, .int .i64 a0_2] 26 (0, 0)) (by (with_reducible repeat (first | refine blk_drewN ?_ _ | refine blk_drew ?_ | refine blk_alloc ?_ _)); exact BK101.out) hb); have n3_ := Aside0.mk (below_step (by repeat (first | (with_reducible first | exact HB.out | apply below_alloc | apply pw_below_drewN | apply below_drew1 | refine below_set ?_ GE101.out) | exact HB.out)) hb); clear HO_3; clear BK101; clear HB; have HO_3 := n0_; have HO127 := n1_; have BK101 := n2_; have HB := n3_; clear n0_ n1_ n2_ n3_; clear hb ho35; obtain ⟨Ao37, co37, eo37⟩ := Kd.R_slice HO127.out; subst eo37) | ((with_reducible refine gate_builtin (b := .append) (xs := #[.tmp 40, .tmp 47]) rfl ?_); at_builtin; refine Kd.R_append_rows (Kd.int .u64) (w0 := w) w.heap.size rfl (.tmp 40) (.tmp 47) 112 31 (.int .u64 0) 8 rfl Try.underlying112 info31 rfl (by decide) (by omega) u3 x3_1 y125 _ _ _ (fun k_ => some k_ ≠ (.slice Ao37 y125.length co37 : Value).ownBlock) (fun _ => False) rfl rfl ?aO ?aR (fun _ _ h => h) (fun _ h => h.elim) ?aF ?aB ?aS ?aL ?_; (case aR => repeat (first | exact (Kd.R_reads' HO127.out).2.2 | (with_reducible refine Kd.C_alloc ?_ _) | (with_reducible refine Kd.C_drewN ?_ _) | (with_reducible refine Kd.C_drew ?_))); (case aB => exact (by repeat (first | (with_reducible first | exact HB.out | apply below_alloc | apply pw_below_drewN | apply below_drew1 | refine below_set ?_ GE101.out) | exact HB.out))); (case aF => exact (fun k_ hk => Kd.fresh' (Kd.R_lt (by (with_reducible repeat (first | apply Kd.R_alloc | apply Kd.R_drewN | apply Kd.R_drew)); exact HO127.out)) k_ hk)); (case aO => exact (by (with_reducible repeat (first | apply Kd.R_alloc | apply Kd.R_drewN | apply Kd.R_drew)); exact Kd.R_mono HO_3.out (fun _ hk => hk.2))); (case aS => exact (below_size (by repeat (first | (with_reducible first | exact HB.out | apply below_alloc | apply pw_below_drewN | apply below_drew1 | refine below_set ?_ GE101.out) | exact HB.out)))); (case aL => have := LMc31.out; omega); intro v129 w36 ho hb hg hat; rw [← Ny128.out] at ho; have n0_ := Aside0.mk (blk_grown (g := gb101) (o := .cells #[.slice A0_0 l0_0.length c0_0, .int .i64 a0_1, .int .i64 a0_2] 26 (0, 0)) (by (with_reducible repeat (first | refine blk_drewN ?_ _ | refine blk_drew ?_ | refine blk_alloc ?_ _)); exact BK101.out) hg (Kd.R_ne HO_3.out BK101.out (by decide))); have n1_ := Aside0.mk (Kd.R_after (ok := (fun _ => True)) (by (with_reducible repeat (first | apply Kd.R_alloc | apply Kd.R_drewN | apply Kd.R_drew)); exact HO127.out) hg hat); have n2_ := Aside0.mk (hb); have n3_ := Aside0.mk (ho); clear BK101; clear HO127; clear HB; clear HO_3; have BK101 := n0_; have HO127 := n1_; have HB := n2_; have HO130 := n3_; clear n0_ n1_ n2_ n3_; clear ho hb hg hat; obtain ⟨Ao38, co38, eo38⟩ := Kd.R_slice HO130.out; subst eo38) | ((with_reducible refine gate_callee (f := 73) rfl ?_); refine goesL_ (some 49) rfl rfl Try.func73 (by kernel_rfl) rfl #[.slice Ao38 y128.length co38] rfl (by (try simp only [List.map_toArray, List.map_cons, List.map_nil]); first | done | rfl | (simp only [List.length_drop, List.length_take]; rfl)) ?_; (with_reducible refine (wire_Put.calls k1 _ _ y128 t131 _ ?side1 ?side2 A32.out).mono ?_); (case side1 => repeat (first | exact (Kd.R_reads' HO130.out).2.2 | (with_reducible refine Kd.C_alloc ?_ _) | (with_reducible refine Kd.C_drewN ?_ _) | (with_reducible refine Kd.C_drew ?_))); (case side2 => exact (Kd.R_reads' HO130.out).2.1); rintro e w39 ⟨v132, rfl, ho0, hb⟩; refine ⟨_, rfl, ?_⟩; have n0_ := Aside0.mk (Kd.R_below (by (with_reducible repeat (first | apply Kd.R_alloc | apply Kd.R_drewN | apply Kd.R_drew)); exact HO127.out) hb); have n1_ := Aside0.mk (Kd.R_below (by (with_reducible repeat (first | apply Kd.R_alloc | apply Kd.R_drewN | apply Kd.R_drew)); exact HO130.out) hb); have n2_ := Aside0.mk (Kd.R_lower ho0 (below_size (by repeat (first | (with_reducible first | exact HB.out | apply below_alloc | apply pw_below_drewN | apply below_drew1 | refine below_set ?_ GE101.out) | exact HB.out)))); have n3_ := Aside0.mk (blk_below (g := gb101) (o := .cells #[.slice A0_0 l0_0.length c0_0, .int .i64 a0_1, .int .i64 a0_2] 26 (0, 0)) (by (with_reducible repeat (first | refine blk_drewN ?_ _ | refine blk_drew ?_ | refine blk_alloc ?_ _)); exact BK101.out) hb); have n4_ := Aside0.mk (below_step (by repeat (first | (with_reducible first | exact HB.out | apply below_alloc | apply pw_below_drewN | apply below_drew1 | refine below_set ?_ GE101.out) | exact HB.out)) hb); clear HO127; clear HO130; clear BK101; clear HB; have HO127 := n0_; have HO130 := n1_; have HO133 := n2_; have BK101 := n3_; have HB := n4_; clear n0_ n1_ n2_ n3_ n4_; (try clear hb); (try clear hb2); (try clear hk); (try clear hi); (try clear ho0); have hcv40 := own_string (P := Try.prog) Try.underlying46 Try.underlying5 Try.underlying9 (Kd.own_of_R HO133.out)))
          go_ret
          exact ⟨by first | rfl | (simp [errW_none, errW_some] <;> rfl) | (simp [*, errW_none, errW_some] <;> rfl), by repeat (first | (with_reducible first | exact HB.out | apply below_alloc | apply pw_below_drewN | apply below_drew1 | refine below_set ?_ GE101.out) | exact HB.out)⟩
        · rw [if_neg c31] at H
          exact absurd H (by simp)


end Go.Proofs.Ytppfkbigeknedaa.Q
