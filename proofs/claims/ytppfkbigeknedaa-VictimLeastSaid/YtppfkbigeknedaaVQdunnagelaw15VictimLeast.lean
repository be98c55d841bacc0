import Derived.Test.YtppfkbigeknedaaVQ0
import Derived.Test.YtppfkbigeknedaaVQdunnagelaw15up
import Derived.Test.YtppfkbigeknedaaVQdunnageref05Few
import Derived.Test.YtppfkbigeknedaaVQpriorMay
import Derived.Test.YtppfkbigeknedaaVQvictimChoose
import Derived.Test.YtppfkbigeknedaaVQvictimMakes
namespace Go.Proofs.Ytppfkbigeknedaa.Q
open Go.RowKit Go.Proofs.YtppfkbigeknedaaW.PrintWords Go.Proofs.YtppfkbigeknedaaW.PrintLast Go.Proofs.YtppfkbigeknedaaW.PrintMore
attribute [local go_sem] max2_int min2_int max_two min_two max_three min_three max_four min_four   -- for this text's walks alone
set_option linter.unusedVariables false
set_option linter.unusedSimpArgs false

attribute [local go_sem] eqe_ii eqe_nn eqe_ni eqe_nni
namespace FoldQdunnagelaw15VictimLeast
theorem F1_ {p : Prop} (h : p := by repeat (first | (with_reducible first | exact HB.out | apply below_alloc | apply pw_below_drewN | apply below_drew1 | refine below_set ?_ GE101.out | refine below_set ?_ GE102.out | refine below_set ?_ GE103.out) | exact HB.out)) : p := h
theorem F2_ {p : Prop} (h : p := by (with_reducible repeat (first | apply Kd.R_alloc | apply Kd.R_drewN | apply Kd.R_drew)); exact HO_14.out) : p := h
theorem F3_ {p : Prop} (h : p := by (with_reducible repeat (first | refine blk_drewN ?_ _ | refine blk_drew ?_ | refine blk_alloc ?_ _)); exact BK101.out) : p := h
theorem F4_ {p : Prop} (h : p := by (with_reducible repeat (first | refine blk_drewN ?_ _ | refine blk_drew ?_ | refine blk_alloc ?_ _)); exact BK102.out) : p := h
theorem F5_ {p : Prop} (h : p := by (with_reducible repeat (first | refine blk_drewN ?_ _ | refine blk_drew ?_ | refine blk_alloc ?_ _)); exact BK103.out) : p := h
theorem F6_ {p : Prop} (h : p := by repeat (first | (with_reducible first | exact HB.out | apply below_alloc | apply pw_below_drewN | apply below_drew1 | refine below_set ?_ GE101.out | refine below_set ?_ GE102.out | refine below_set ?_ GE103.out) | exact HB.out)) : p := h
theorem F7_ {p : Prop} (h : p := by repeat (first | (with_reducible exact HR120.out) | (with_reducible refine Kd.C_alloc ?_ _) | (with_reducible refine Kd.C_drewN ?_ _) | (with_reducible refine Kd.C_drew ?_) | exact HR120.out)) : p := h
theorem F8_ {p : Prop} (h : p := by repeat (first | (with_reducible exact HR127.out) | (with_reducible refine Kd.C_alloc ?_ _) | (with_reducible refine Kd.C_drewN ?_ _) | (with_reducible refine Kd.C_drew ?_) | exact HR127.out)) : p := h
theorem F9_ {p : Prop} (h : p := by repeat (first | exact (Kd.C_below HR2_0.out HB.out) | (with_reducible refine Kd.C_alloc ?_ _) | (with_reducible refine Kd.C_drewN ?_ _) | (with_reducible refine Kd.C_drew ?_))) : p := h
theorem F10_ {p : Prop} (h : p := by (try simp only [List.map_toArray, List.map_cons, List.map_nil]); first | done | rfl | (simp only [List.length_drop, List.length_take]; rfl)) : p := h
theorem F11_ {p : Prop} (h : p := by repeat (first | exact (Kd.C_below HR0_0.out HB.out) | (with_reducible refine Kd.C_alloc ?_ _) | (with_reducible refine Kd.C_drewN ?_ _) | (with_reducible refine Kd.C_drew ?_))) : p := h
theorem F12_ {p : Prop} (h : p := by repeat (first | exact (Kd.C_below HR0_1.out HB.out) | (with_reducible refine Kd.C_alloc ?_ _) | (with_reducible refine Kd.C_drewN ?_ _) | (with_reducible refine Kd.C_drew ?_))) : p := h
theorem F13_ {p : Prop} (h : p := by repeat (first | exact (Kd.C_below HR0_2.out HB.out) | (with_reducible refine Kd.C_alloc ?_ _) | (with_reducible refine Kd.C_drewN ?_ _) | (with_reducible refine Kd.C_drew ?_))) : p := h
theorem F14_ {p : Prop} (h : p := by repeat (first | exact (Kd.C_below HR1_0.out HB.out) | (with_reducible refine Kd.C_alloc ?_ _) | (with_reducible refine Kd.C_drewN ?_ _) | (with_reducible refine Kd.C_drew ?_))) : p := h
theorem F15_ {p : Prop} (h : p := by first | (with_reducible assumption) | assumption) : p := h
theorem F16_ {p : Prop} (h : p := by (with_reducible repeat (first | apply Kd.R_alloc | apply Kd.R_drewN | apply Kd.R_drew)); exact HO130.out) : p := h
theorem F17_ {p : Prop} (h : p := by repeat (first | (with_reducible first | exact HB.out | apply below_alloc | apply pw_below_drewN | apply below_drew1 | refine below_set ?_ GE101.out | refine below_set ?_ GE102.out) | exact HB.out)) : p := h
theorem F18_ {p : Prop} (h : p := by first | rfl | (simp [errW_none, errW_some] <;> rfl) | (simp [*, errW_none, errW_some] <;> rfl)) : p := h
theorem F19_ {p : Prop} (h : p := by (with_reducible repeat (first | refine blk_drewN ?_ _ | refine blk_drew ?_ | refine blk_alloc ?_ _)); exact BK101.out) : p := h
theorem F20_ {p : Prop} (h : p := by (with_reducible repeat (first | refine blk_drewN ?_ _ | refine blk_drew ?_ | refine blk_alloc ?_ _)); exact BK102.out) : p := h
theorem F21_ {p : Prop} (h : p := by (with_reducible repeat (first | refine blk_drewN ?_ _ | refine blk_drew ?_ | refine blk_alloc ?_ _)); exact BK103.out) : p := h
theorem F22_ {p : Prop} (h : p := by repeat (first | exact (Kd.R_reads' HO130.out).2.2 | (with_reducible refine Kd.C_alloc ?_ _) | (with_reducible refine Kd.C_drewN ?_ _) | (with_reducible refine Kd.C_drew ?_))) : p := h
theorem F23_ {p : Prop} (h : p := by repeat (first | (with_reducible first | exact HB.out | apply below_alloc | apply pw_below_drewN | apply below_drew1 | refine below_set ?_ GE101.out) | exact HB.out)) : p := h
theorem F24_ {p : Prop} (h : p := by repeat (first | exact F7_ | (with_reducible refine Kd.C_alloc ?_ _) | (with_reducible refine Kd.C_drewN ?_ _) | (with_reducible refine Kd.C_drew ?_))) : p := h
theorem F25_ {p : Prop} (h : p := by repeat (first | exact F8_ | (with_reducible refine Kd.C_alloc ?_ _) | (with_reducible refine Kd.C_drewN ?_ _) | (with_reducible refine Kd.C_drew ?_))) : p := h
theorem F26_ {p : Prop} (h : p := by exact (by (with_reducible repeat (first | apply Kd.R_alloc | apply Kd.R_drewN | apply Kd.R_drew)); exact Kd.R_mono HO116.out (fun _ hk => hk.2))) : p := h
theorem F27_ {p : Prop} (h : p := by repeat (first | (with_reducible first | exact HB.out | apply below_alloc | apply pw_below_drewN | apply below_drew1) | exact HB.out)) : p := h
theorem F28_ {p : Prop} (h : p := by exact (by (with_reducible repeat (first | apply Kd.R_alloc | apply Kd.R_drewN | apply Kd.R_drew)); exact HO123.out)) : p := h
end FoldQdunnagelaw15VictimLeast
open FoldQdunnagelaw15VictimLeast
/-! ### dunnagelaw15_VictimLeast: function 15 -/
mutual
def dunnagelaw15_VictimLeast.l0 : Nat → Int → Int → Bool → Bool → Int → List (S150) → List (S260) → List (S70) → List (S185) → Int → Int → List (S70) → Int → Int → Option (Bool)
 | 0, _, _, _, _, _, _, _, _, _, _, _, _, _, _ => none
 | k + 1, x3, x4, x11, x12, x13, x102000, x102001, x102002, x103000, x103001, x103002, x104000, x104001, x104002 => if x13 < (x104000.length : Int) then (if 0 ≤ x13 then (if 0 ≤ (wrap64 (x13 - 1)) then (if (wrap64 (x13 - 1)) < (x104000.length : Int) then (if ((rd_T70 x104000 x13).f0) ≤ ((rd_T70 x104000 (wrap64 (x13 - 1))).f0) then (some x11) else (dunnagelaw15_VictimLeast.l0 k x3 x4 x11 x12 (wrap64 (x13 + 1)) x102000 x102001 x102002 x103000 x103001 x103002 x104000 x104001 x104002)) else (none)) else (none)) else (none)) else (if x12 = true then ((victim_Choose.f k x102000 x102001 x102002 x103000 x103001 x103002 x104000 x104001 x104002 x3 x4).bind fun bt108 => (if bt108.2.isNone = true then ((victim_Makes.f k x102000 x102001 x102002 x103000 x103001 x103002 x104000 x104001 x104002 x3 x4 bt108.1).bind fun t113 => (if t113 = true then (dunnagelaw15_VictimLeast.l1 k x3 x4 x11 bt108.1 0 x102000 x102001 x102002 x103000 x103001 x103002 x104000 x104001 x104002) else (some false))) else (if x11 = true then (some ((bt108.1.length : Int) == 0)) else (some false)))) else (some x11))
def dunnagelaw15_VictimLeast.l1 : Nat → Int → Int → Bool → List Int → Int → List (S150) → List (S260) → List (S70) → List (S185) → Int → Int → List (S70) → Int → Int → Option (Bool)
 | 0, _, _, _, _, _, _, _, _, _, _, _, _, _, _ => none
 | k + 1, x3, x4, x11, x14, x16, x102000, x102001, x102002, x103000, x103001, x103002, x104000, x104001, x104002 => if x16 < (x14.length : Int) then ((some (([] : List Int) : List Int)).bind fun y114 => (if 0 ≤ x16 then (if x16 ≤ (x14.length : Int) then ((some (x14.take (x16 : Int).toNat : List Int)).bind fun y117 => (if y114.length + y117.length < 17592186044416 then ((some (y114 ++ y117 : List Int)).bind fun y121 => (if 0 ≤ (wrap64 (x16 + 1)) then (if (wrap64 (x16 + 1)) ≤ (x14.length : Int) then ((some (x14.drop ((wrap64 (x16 + 1)) : Int).toNat : List Int)).bind fun y124 => (if y121.length + y124.length < 17592186044416 then ((victim_Makes.f k x102000 x102001 x102002 x103000 x103001 x103002 x104000 x104001 x104002 x3 x4 (y121 ++ y124)).bind fun t131 => (if t131 = true then (some false) else ((prior_May.f x104000 x104001 x104002 x3 (rd x14 x16)).bind fun t133 => (if t133 = true then (dunnagelaw15_VictimLeast.l1 k x3 x4 x11 x14 (wrap64 (x16 + 1)) x102000 x102001 x102002 x103000 x103001 x103002 x104000 x104001 x104002) else (some false))))) else (none))) else (none)) else (none))) else (none))) else (none)) else (none))) else (some x11)
end
def dunnagelaw15_VictimLeast.f (k : Nat) (l0_0 : List (S150)) (l0_1 : List (S260)) (l0_2 : List (S70)) (l1_0 : List (S185)) (a1_1 : Int) (a1_2 : Int) (l2_0 : List (S70)) (a2_1 : Int) (a2_2 : Int) (a3 : Int) (a4 : Int) : Option (Bool) := (dunnagelaw15_up.f k).bind fun t104 => ((dunnageref05_Few.f l0_0 l0_1 l0_2 l1_0 a1_1 a1_2 l2_0 a2_1 a2_2).bind fun t105 => (dunnagelaw15_VictimLeast.l0 k a3 a4 t104 t105 1 l0_0 l0_1 l0_2 l1_0 a1_1 a1_2 l2_0 a2_1 a2_2))
theorem dunnagelaw15_VictimLeast.mono_l : ∀ k, (∀ y0 y1 y2 y3 y4 y5 y6 y7 y8 y9 y10 y11 y12 y13, LeO (dunnagelaw15_VictimLeast.l0 k y0 y1 y2 y3 y4 y5 y6 y7 y8 y9 y10 y11 y12 y13) (dunnagelaw15_VictimLeast.l0 (k + 1) y0 y1 y2 y3 y4 y5 y6 y7 y8 y9 y10 y11 y12 y13)) ∧ (∀ y0 y1 y2 y3 y4 y5 y6 y7 y8 y9 y10 y11 y12 y13, LeO (dunnagelaw15_VictimLeast.l1 k y0 y1 y2 y3 y4 y5 y6 y7 y8 y9 y10 y11 y12 y13) (dunnagelaw15_VictimLeast.l1 (k + 1) y0 y1 y2 y3 y4 y5 y6 y7 y8 y9 y10 y11 y12 y13))
 | 0 => ⟨fun _ _ _ _ _ _ _ _ _ _ _ _ _ _ r h => by simp [dunnagelaw15_VictimLeast.l0] at h, fun _ _ _ _ _ _ _ _ _ _ _ _ _ _ r h => by simp [dunnagelaw15_VictimLeast.l1] at h⟩
 | k + 1 => by
  obtain ⟨ih0, ih1⟩ := dunnagelaw15_VictimLeast.mono_l k
  refine ⟨?_, ?_⟩
  ·intro y0 y1 y2 y3 y4 y5 y6 y7 y8 y9 y10 y11 y12 y13
   unfold dunnagelaw15_VictimLeast.l0
   repeat' first
   | (with_reducible exact ih0 _ _ _ _ _ _ _ _ _ _ _ _ _ _)
   | (with_reducible exact ih1 _ _ _ _ _ _ _ _ _ _ _ _ _ _)
   | (with_reducible exact dunnagelaw15_up.mono _)
   | (with_reducible exact victim_Choose.mono _ _ _ _ _ _ _ _ _ _ _ _)
   | (with_reducible exact victim_Makes.mono _ _ _ _ _ _ _ _ _ _ _ _ _)
   | (with_reducible exact LeO.refl _)
   | (with_reducible exact LeO.none _)
   | (with_reducible refine LeO.ite ?_ ?_)
   | (with_reducible refine LeO.bind ?_ (fun _ => ?_))
   | exact ih0 _ _ _ _ _ _ _ _ _ _ _ _ _ _
   | exact ih1 _ _ _ _ _ _ _ _ _ _ _ _ _ _
   | exact dunnagelaw15_up.mono _
   | exact victim_Choose.mono _ _ _ _ _ _ _ _ _ _ _ _
   | exact victim_Makes.mono _ _ _ _ _ _ _ _ _ _ _ _ _
   | exact LeO.none _
   | refine LeO.ite ?_ ?_
   | refine LeO.bind ?_ (fun _ => ?_)
  ·intro y0 y1 y2 y3 y4 y5 y6 y7 y8 y9 y10 y11 y12 y13
   unfold dunnagelaw15_VictimLeast.l1
   repeat' first
   | (with_reducible exact ih0 _ _ _ _ _ _ _ _ _ _ _ _ _ _)
   | (with_reducible exact ih1 _ _ _ _ _ _ _ _ _ _ _ _ _ _)
   | (with_reducible exact dunnagelaw15_up.mono _)
   | (with_reducible exact victim_Choose.mono _ _ _ _ _ _ _ _ _ _ _ _)
   | (with_reducible exact victim_Makes.mono _ _ _ _ _ _ _ _ _ _ _ _ _)
   | (with_reducible exact LeO.refl _)
   | (with_reducible exact LeO.none _)
   | (with_reducible refine LeO.ite ?_ ?_)
   | (with_reducible refine LeO.bind ?_ (fun _ => ?_))
   | exact ih0 _ _ _ _ _ _ _ _ _ _ _ _ _ _
   | exact ih1 _ _ _ _ _ _ _ _ _ _ _ _ _ _
   | exact dunnagelaw15_up.mono _
   | exact victim_Choose.mono _ _ _ _ _ _ _ _ _ _ _ _
   | exact victim_Makes.mono _ _ _ _ _ _ _ _ _ _ _ _ _
   | exact LeO.none _
   | refine LeO.ite ?_ ?_
   | refine LeO.bind ?_ (fun _ => ?_)
theorem dunnagelaw15_VictimLeast.mono : ∀ a0 a1 a2 a3 a4 a5 a6 a7 a8 a9 a10 k, LeO (dunnagelaw15_VictimLeast.f k a0 a1 a2 a3 a4 a5 a6 a7 a8 a9 a10) (dunnagelaw15_VictimLeast.f (k + 1) a0 a1 a2 a3 a4 a5 a6 a7 a8 a9 a10) := by
 intro a0 a1 a2 a3 a4 a5 a6 a7 a8 a9 a10 k
 obtain ⟨ih0, ih1⟩ := dunnagelaw15_VictimLeast.mono_l k
 unfold dunnagelaw15_VictimLeast.f
 repeat' first
   | (with_reducible exact ih0 _ _ _ _ _ _ _ _ _ _ _ _ _ _)
   | (with_reducible exact ih1 _ _ _ _ _ _ _ _ _ _ _ _ _ _)
   | (with_reducible exact dunnagelaw15_up.mono _)
   | (with_reducible exact victim_Choose.mono _ _ _ _ _ _ _ _ _ _ _ _)
   | (with_reducible exact victim_Makes.mono _ _ _ _ _ _ _ _ _ _ _ _ _)
   | (with_reducible exact LeO.refl _)
   | (with_reducible exact LeO.none _)
   | (with_reducible refine LeO.ite ?_ ?_)
   | (with_reducible refine LeO.bind ?_ (fun _ => ?_))
   | exact ih0 _ _ _ _ _ _ _ _ _ _ _ _ _ _
   | exact ih1 _ _ _ _ _ _ _ _ _ _ _ _ _ _
   | exact dunnagelaw15_up.mono _
   | exact victim_Choose.mono _ _ _ _ _ _ _ _ _ _ _ _
   | exact victim_Makes.mono _ _ _ _ _ _ _ _ _ _ _ _ _
   | exact LeO.none _
   | refine LeO.ite ?_ ?_
   | refine LeO.bind ?_ (fun _ => ?_)
def dunnagelaw15_VictimLeast.T6 : Bool × List (List Nat × List Nat) := (true, [([], []), ([0], [0]), ([], []), ([1, 2], [1, 2]), ([3], [3]), ([4], [4]), ([], []), ([6], [6]), ([], []), ([8], [8]), ([7, 9], [7, 9]), ([10], [10]), ([11], [11]), ([5, 12], [5, 12])])
def dunnagelaw15_VictimLeast.B6 : List Nat := [0, 1, 0, 7, 15, 31, 0, 64, 0, 256, 960, 1984, 4032, 8191]
theorem dunnagelaw15_VictimLeast.tab6 : rtab .any (opsOf Try.f15 6) = dunnagelaw15_VictimLeast.T6 := by kernel_rfl
theorem dunnagelaw15_VictimLeast.bits6 : waitsOk dunnagelaw15_VictimLeast.T6.2 dunnagelaw15_VictimLeast.B6 = true := by kernel_rfl
def dunnagelaw15_VictimLeast.T18 : Bool × List (List Nat × List Nat) := (true, [([], []), ([], []), ([], []), ([1, 2], [1, 2]), ([0, 3], [0, 3]), ([], []), ([], []), ([6], [6]), ([5, 7], [5, 7]), ([4, 8, 4], [4, 8]), ([9, 9, 0, 1, 2, 3, 4, 5, 6, 7, 8, 9], [9])])
def dunnagelaw15_VictimLeast.B18 : List Nat := [0, 0, 0, 6, 15, 0, 0, 64, 224, 511, 1023]
theorem dunnagelaw15_VictimLeast.tab18 : rtab .any (opsOf Try.f15 18) = dunnagelaw15_VictimLeast.T18 := by kernel_rfl
theorem dunnagelaw15_VictimLeast.bits18 : waitsOk dunnagelaw15_VictimLeast.T18.2 dunnagelaw15_VictimLeast.B18 = true := by kernel_rfl
def dunnagelaw15_VictimLeast.T19 : Bool × List (List Nat × List Nat) := (true, [([], []), ([], []), ([], []), ([], []), ([], []), ([], []), ([0, 1, 2, 3, 4, 5], [0, 1, 2, 3, 4, 5]), ([6, 6], [6]), ([7], [7]), ([7], [7]), ([7], [7]), ([7], [7]), ([10, 11, 7], [7, 10, 11]), ([12, 7], [7, 12]), ([8, 9, 13, 7, 7], [7, 8, 9, 13]), ([14, 7], [7, 14]), ([7, 15], [7, 15])])
def dunnagelaw15_VictimLeast.B19 : List Nat := [0, 0, 0, 0, 0, 0, 63, 127, 255, 255, 255, 255, 3327, 7423, 16383, 32767, 65535]
theorem dunnagelaw15_VictimLeast.tab19 : rtab .any (opsOf Try.f15 19) = dunnagelaw15_VictimLeast.T19 := by kernel_rfl
theorem dunnagelaw15_VictimLeast.bits19 : waitsOk dunnagelaw15_VictimLeast.T19.2 dunnagelaw15_VictimLeast.B19 = true := by kernel_rfl
set_option maxHeartbeats 8000000 in
set_option maxRecDepth 100000 in
theorem dunnagelaw15_VictimLeast.calls (k : Nat) (A0_0 : Option Addr) (c0_0 : Nat) (l0_0 : List (S150)) (A0_1 : Option Addr) (c0_1 : Nat) (l0_1 : List (S260)) (A0_2 : Option Addr) (c0_2 : Nat) (l0_2 : List (S70)) (A1_0 : Option Addr) (c1_0 : Nat) (l1_0 : List (S185)) (a1_1 : Int) (a1_2 : Int) (A2_0 : Option Addr) (c2_0 : Nat) (l2_0 : List (S70)) (a2_1 : Int) (a2_2 : Int) (a3 : Int) (a4 : Int) (r : Bool) (w : World) (hr0_0 : Kd.C k150 w A0_0 l0_0.length l0_0) (hc0_0 : l0_0.length ≤ c0_0) (hr0_1 : Kd.C k260 w A0_1 l0_1.length l0_1) (hc0_1 : l0_1.length ≤ c0_1) (hr0_2 : Kd.C k70 w A0_2 l0_2.length l0_2) (hc0_2 : l0_2.length ≤ c0_2) (hr1_0 : Kd.C k185 w A1_0 l1_0.length l1_0) (hc1_0 : l1_0.length ≤ c1_0) (hr2_0 : Kd.C k70 w A2_0 l2_0.length l2_0) (hc2_0 : l2_0.length ≤ c2_0) (h : dunnagelaw15_VictimLeast.f k l0_0 l0_1 l0_2 l1_0 a1_1 a1_2 l2_0 a2_1 a2_2 a3 a4 = some r) :
  Calls Try.prog 15 #[.agg #[.slice A0_0 l0_0.length c0_0, .slice A0_1 l0_1.length c0_1, .slice A0_2 l0_2.length c0_2], .agg #[.slice A1_0 l1_0.length c1_0, .int .i64 a1_1, .int .i64 a1_2], .agg #[.slice A2_0 l2_0.length c2_0, .int .i64 a2_1, .int .i64 a2_2], .int .i64 a3, .int .i64 a4] w fun e w' => e = .returned (.bool r) ∧ Below w.heap.size w w' := by
 have hu96 := Try.underlying96
 have hu99 := Try.underlying99
 have hu26 := Try.underlying26
 have hu35 := Try.underlying35
 have hu66 := Try.underlying66
 have HR0_0 := Aside0.mk hr0_0
 have HC0_0 := Aside0.mk hc0_0
 clear hr0_0 hc0_0
 have HR0_1 := Aside0.mk hr0_1
 have HC0_1 := Aside0.mk hc0_1
 clear hr0_1 hc0_1
 have HR0_2 := Aside0.mk hr0_2
 have HC0_2 := Aside0.mk hc0_2
 clear hr0_2 hc0_2
 have HR1_0 := Aside0.mk hr1_0
 have HC1_0 := Aside0.mk hc1_0
 clear hr1_0 hc1_0
 have HR2_0 := Aside0.mk hr2_0
 have HC2_0 := Aside0.mk hc2_0
 clear hr2_0 hc2_0
 have HB := Aside0.mk (Below.refl w.heap.size w)
 have H : ((dunnagelaw15_up.f k).bind fun t104 => ((dunnageref05_Few.f l0_0 l0_1 l0_2 l1_0 a1_1 a1_2 l2_0 a2_1 a2_2).bind fun t105 => (dunnagelaw15_VictimLeast.l0 k a3 a4 t104 t105 1 l0_0 l0_1 l0_2 l1_0 a1_1 a1_2 l2_0 a2_1 a2_2))) = some r := h
 clear h
 replace H := Option.bind_eq_some_iff.mp H
 obtain ⟨t104, A60, H⟩ := H
 replace H : ((dunnageref05_Few.f l0_0 l0_1 l0_2 l1_0 a1_1 a1_2 l2_0 a2_1 a2_2).bind fun t105 => (dunnagelaw15_VictimLeast.l0 k a3 a4 t104 t105 1 l0_0 l0_1 l0_2 l1_0 a1_1 a1_2 l2_0 a2_1 a2_2)) = some r := H
 have A6 := Aside0.mk A60
 clear A60
 replace H := Option.bind_eq_some_iff.mp H
 obtain ⟨t105, A70, H⟩ := H
 replace H : (dunnagelaw15_VictimLeast.l0 k a3 a4 t104 t105 1 l0_0 l0_1 l0_2 l1_0 a1_1 a1_2 l2_0 a2_1 a2_2) = some r := H
 have A7 := Aside0.mk A70
 clear A70
 have H' := Aside0.mk H
 clear H
 go_enter Try.func15, Try.ntmps15
 go_wp2_with (first | ((with_reducible refine gate_dst (N := 5) rfl ?_); (try (refine gate_guard (by rfl) ?_; dsimp only)); refine box_event ?hg (N := 5) ?hd (cs := #[.slice A0_0 l0_0.length c0_0, .slice A0_1 l0_1.length c0_1, .slice A0_2 l0_2.length c0_2]) (t := 96) ?hr ?_; (case hd => rfl); (case hg => rfl); (case hr => first | (go_simp; done) | (go_simp; rfl)); intro gb101 hg w8 hbox hb; have n0_ := Aside0.mk (below_step F27_ hb); have n1_ := Aside0.mk (hbox); have n2_ := Aside0.mk ((by rw [hg]; exact (below_size F27_) : w.heap.size ≤ gb101)); have n3_ := Aside0.mk ((by rw [hg]; exact (below_size F27_) : w.heap.size ≤ gb101)); clear HB; have HB := n0_; have BK101 := n1_; have GW101 := n2_; have GE101 := n3_; clear n0_ n1_ n2_ n3_; clear hb hbox hg) | ((with_reducible refine gate_dst (N := 6) rfl ?_); (try (refine gate_guard (by rfl) ?_; dsimp only)); refine box_event ?hg (N := 6) ?hd (cs := #[.slice A1_0 l1_0.length c1_0, .int .i64 a1_1, .int .i64 a1_2]) (t := 99) ?hr ?_; (case hd => rfl); (case hg => rfl); (case hr => first | (go_simp; done) | (go_simp; rfl)); intro gb102 hg w9 hbox hb; have n0_ := Aside0.mk (blk_below (g := gb101) (o := .cells #[.slice A0_0 l0_0.length c0_0, .slice A0_1 l0_1.length c0_1, .slice A0_2 l0_2.length c0_2] 96 (0, 0)) F3_ hb); have n1_ := Aside0.mk (below_step F23_ hb); have n2_ := Aside0.mk (hbox); have n3_ := Aside0.mk ((by rw [hg]; exact (below_size F23_) : w.heap.size ≤ gb102)); have n4_ := Aside0.mk ((by rw [hg]; exact (below_size F23_) : w.heap.size ≤ gb102)); have n5_ := Aside0.mk ((by rw [hg]; exact Nat.ne_of_lt (blk_lt (g := gb101) (o := .cells #[.slice A0_0 l0_0.length c0_0, .slice A0_1 l0_1.length c0_1, .slice A0_2 l0_2.length c0_2] 96 (0, 0)) F3_) : gb101 ≠ gb102)); have n6_ := Aside0.mk ((by rw [hg]; exact Nat.ne_of_gt (blk_lt (g := gb101) (o := .cells #[.slice A0_0 l0_0.length c0_0, .slice A0_1 l0_1.length c0_1, .slice A0_2 l0_2.length c0_2] 96 (0, 0)) F3_) : gb102 ≠ gb101)); clear BK101; clear HB; have BK101 := n0_; have HB := n1_; have BK102 := n2_; have GW102 := n3_; have GE102 := n4_; have NB101_102 := n5_; have NB102_101 := n6_; clear n0_ n1_ n2_ n3_ n4_ n5_ n6_; clear hb hbox hg) | ((with_reducible refine gate_dst (N := 7) rfl ?_); (try (refine gate_guard (by rfl) ?_; dsimp only)); refine box_event ?hg (N := 7) ?hd (cs := #[.slice A2_0 l2_0.length c2_0, .int .i64 a2_1, .int .i64 a2_2]) (t := 26) ?hr ?_; (case hd => rfl); (case hg => rfl); (case hr => first | (go_simp; done) | (go_simp; rfl)); intro gb103 hg w10 hbox hb; have n0_ := Aside0.mk (blk_below (g := gb101) (o := .cells #[.slice A0_0 l0_0.length c0_0, .slice A0_1 l0_1.length c0_1, .slice A0_2 l0_2.length c0_2] 96 (0, 0)) F3_ hb); have n1_ := Aside0.mk (blk_below (g := gb102) (o := .cells #[.slice A1_0 l1_0.length c1_0, .int .i64 a1_1, .int .i64 a1_2] 99 (0, 0)) F4_ hb); have n2_ := Aside0.mk (below_step F17_ hb); have n3_ := Aside0.mk (hbox); have n4_ := Aside0.mk ((by rw [hg]; exact (below_size F17_) : w.heap.size ≤ gb103)); have n5_ := Aside0.mk ((by rw [hg]; exact (below_size F17_) : w.heap.size ≤ gb103)); have n6_ := Aside0.mk ((by rw [hg]; exact Nat.ne_of_lt (blk_lt (g := gb101) (o := .cells #[.slice A0_0 l0_0.length c0_0, .slice A0_1 l0_1.length c0_1, .slice A0_2 l0_2.length c0_2] 96 (0, 0)) F3_) : gb101 ≠ gb103)); have n7_ := Aside0.mk ((by rw [hg]; exact Nat.ne_of_gt (blk_lt (g := gb101) (o := .cells #[.slice A0_0 l0_0.length c0_0, .slice A0_1 l0_1.length c0_1, .slice A0_2 l0_2.length c0_2] 96 (0, 0)) F3_) : gb103 ≠ gb101)); have n8_ := Aside0.mk ((by rw [hg]; exact Nat.ne_of_lt (blk_lt (g := gb102) (o := .cells #[.slice A1_0 l1_0.length c1_0, .int .i64 a1_1, .int .i64 a1_2] 99 (0, 0)) F4_) : gb102 ≠ gb103)); have n9_ := Aside0.mk ((by rw [hg]; exact Nat.ne_of_gt (blk_lt (g := gb102) (o := .cells #[.slice A1_0 l1_0.length c1_0, .int .i64 a1_1, .int .i64 a1_2] 99 (0, 0)) F4_) : gb103 ≠ gb102)); clear BK101; clear BK102; clear HB; have BK101 := n0_; have BK102 := n1_; have HB := n2_; have BK103 := n3_; have GW103 := n4_; have GE103 := n5_; have NB101_103 := n6_; have NB103_101 := n7_; have NB102_103 := n8_; have NB103_102 := n9_; clear n0_ n1_ n2_ n3_ n4_ n5_ n6_ n7_ n8_ n9_; clear hb hbox hg) | ((with_reducible refine gate_callee (f := 59) rfl ?_); refine goesL_ (some 18) rfl rfl Try.func59 (by kernel_rfl) rfl #[] rfl F10_ ?_; (with_reducible refine (dunnagelaw15_up.calls k  t104 _ A6.out).mono ?_); rintro e w11 ⟨rfl, hb⟩; refine ⟨_, rfl, ?_⟩; have n0_ := Aside0.mk (blk_below (g := gb101) (o := .cells #[.slice A0_0 l0_0.length c0_0, .slice A0_1 l0_1.length c0_1, .slice A0_2 l0_2.length c0_2] 96 (0, 0)) F3_ hb); have n1_ := Aside0.mk (blk_below (g := gb102) (o := .cells #[.slice A1_0 l1_0.length c1_0, .int .i64 a1_1, .int .i64 a1_2] 99 (0, 0)) F4_ hb); have n2_ := Aside0.mk (blk_below (g := gb103) (o := .cells #[.slice A2_0 l2_0.length c2_0, .int .i64 a2_1, .int .i64 a2_2] 26 (0, 0)) F5_ hb); have n3_ := Aside0.mk (below_step F1_ hb); clear BK101; clear BK102; clear BK103; clear HB; have BK101 := n0_; have BK102 := n1_; have BK103 := n2_; have HB := n3_; clear n0_ n1_ n2_ n3_; (try clear hb); (try clear hb2); (try clear hk); (try clear hi); have hnb12 := NB101_102.out; have hnc12 := NB102_101.out; have hnb13 := NB101_103.out; have hnc13 := NB103_101.out; have hcz14_0 : w11.cell? ⟨gb101, 0, none⟩ = some (.slice A0_0 l0_0.length c0_0) := (blk_cell BK101.out 0).trans rfl; have hcz14_1 : w11.cell? ⟨gb101, 1, none⟩ = some (.slice A0_1 l0_1.length c0_1) := (blk_cell BK101.out 1).trans rfl; have hcz14_2 : w11.cell? ⟨gb101, 2, none⟩ = some (.slice A0_2 l0_2.length c0_2) := (blk_cell BK101.out 2).trans rfl; have hfz14_0 := blk_frozen BK101.out 0; have hfz14_1 := blk_frozen BK101.out 1; have hfz14_2 := blk_frozen BK101.out 2; have hnb15 := NB102_103.out; have hnc15 := NB103_102.out; have hcz16_0 : w11.cell? ⟨gb102, 0, none⟩ = some (.slice A1_0 l1_0.length c1_0) := (blk_cell BK102.out 0).trans rfl; have hcz16_1 : w11.cell? ⟨gb102, 1, none⟩ = some (.int .i64 a1_1) := (blk_cell BK102.out 1).trans rfl; have hcz16_2 : w11.cell? ⟨gb102, 2, none⟩ = some (.int .i64 a1_2) := (blk_cell BK102.out 2).trans rfl; have hfz16_0 := blk_frozen BK102.out 0; have hfz16_1 := blk_frozen BK102.out 1; have hfz16_2 := blk_frozen BK102.out 2; have hcz17_0 : w11.cell? ⟨gb103, 0, none⟩ = some (.slice A2_0 l2_0.length c2_0) := (blk_cell BK103.out 0).trans rfl; have hcz17_1 : w11.cell? ⟨gb103, 1, none⟩ = some (.int .i64 a2_1) := (blk_cell BK103.out 1).trans rfl; have hcz17_2 : w11.cell? ⟨gb103, 2, none⟩ = some (.int .i64 a2_2) := (blk_cell BK103.out 2).trans rfl; have hfz17_0 := blk_frozen BK103.out 0; have hfz17_1 := blk_frozen BK103.out 1; have hfz17_2 := blk_frozen BK103.out 2) | ((with_reducible refine gate_callee (f := 60) rfl ?_); refine goesL_ (some 22) rfl rfl Try.func60 (by kernel_rfl) rfl #[.agg #[.slice A0_0 l0_0.length c0_0, .slice A0_1 l0_1.length c0_1, .slice A0_2 l0_2.length c0_2], .agg #[.slice A1_0 l1_0.length c1_0, .int .i64 a1_1, .int .i64 a1_2], .agg #[.slice A2_0 l2_0.length c2_0, .int .i64 a2_1, .int .i64 a2_2]] rfl F10_ ?_; (with_reducible refine (dunnageref05_Few.calls _ _ l0_0 _ _ l0_1 _ _ l0_2 _ _ l1_0 a1_1 a1_2 _ _ l2_0 a2_1 a2_2 t105 _ ?side1 ?side2 ?side3 ?side4 ?side5 ?side6 ?side7 ?side8 ?side9 ?side10 A7.out).mono ?_); (case side1 => exact F11_); (case side2 => exact HC0_0.out); (case side3 => exact F12_); (case side4 => exact HC0_1.out); (case side5 => exact F13_); (case side6 => exact HC0_2.out); (case side7 => exact F14_); (case side8 => exact HC1_0.out); (case side9 => exact F9_); (case side10 => exact HC2_0.out); rintro e w18 ⟨rfl, hb⟩; refine ⟨_, rfl, ?_⟩; have n0_ := Aside0.mk (blk_below (g := gb101) (o := .cells #[.slice A0_0 l0_0.length c0_0, .slice A0_1 l0_1.length c0_1, .slice A0_2 l0_2.length c0_2] 96 (0, 0)) F3_ hb); have n1_ := Aside0.mk (blk_below (g := gb102) (o := .cells #[.slice A1_0 l1_0.length c1_0, .int .i64 a1_1, .int .i64 a1_2] 99 (0, 0)) F4_ hb); have n2_ := Aside0.mk (blk_below (g := gb103) (o := .cells #[.slice A2_0 l2_0.length c2_0, .int .i64 a2_1, .int .i64 a2_2] 26 (0, 0)) F5_ hb); have n3_ := Aside0.mk (below_step F1_ hb); clear BK101; clear BK102; clear BK103; clear HB; have BK101 := n0_; have BK102 := n1_; have BK103 := n2_; have HB := n3_; clear n0_ n1_ n2_ n3_; (try clear hb); (try clear hb2); (try clear hk); (try clear hi)))
 go_loopg [13] k (fun kq v13 w' => ∃ (x13_1 : Int), v13 = .int .i64 x13_1 ∧ Aside0 (dunnagelaw15_VictimLeast.l0 kq a3 a4 t104 t105 x13_1 l0_0 l0_1 l0_2 l1_0 a1_1 a1_2 l2_0 a2_1 a2_2 = some r) ∧ Aside0 (kq ≤ k) ∧ Aside0 (w'.heap[gb101]? = some (.cells #[(.slice A0_0 l0_0.length c0_0), (.slice A0_1 l0_1.length c0_1), (.slice A0_2 l0_2.length c0_2)] 96 (0, 0))) ∧ Aside0 (w'.heap[gb102]? = some (.cells #[(.slice A1_0 l1_0.length c1_0), .int .i64 a1_1, .int .i64 a1_2] 99 (0, 0))) ∧ Aside0 (w'.heap[gb103]? = some (.cells #[(.slice A2_0 l2_0.length c2_0), .int .i64 a2_1, .int .i64 a2_2] 26 (0, 0))) ∧ Aside0 (Below w.heap.size w w'))
 case atStart => exact ⟨(1), (by first | rfl | (simp; done) | (simp [*]; done)), H', ⟨Nat.le_refl _⟩, ⟨F19_⟩, ⟨F20_⟩, ⟨F21_⟩, ⟨F6_⟩⟩
 case round =>
  clear H'
  try clear c1
  try clear c2
  try clear p2
  try clear c5
  try clear c6
  try clear c12
  try clear c13
  try clear c15
  try clear hcz14_0
  try clear hcz14_1
  try clear hcz14_2
  try clear hcz16_0
  try clear hcz16_1
  try clear hcz16_2
  try clear hcz17_0
  try clear hcz17_1
  try clear hcz17_2
  try clear hfz14_0
  try clear hfz14_1
  try clear hfz14_2
  try clear hfz16_0
  try clear hfz16_1
  try clear hfz16_2
  try clear hfz17_0
  try clear hfz17_1
  try clear hfz17_2
  obtain ⟨x13_1, rfl, HA, HK1, BK101, BK102, BK103, HB⟩ := hrel
  cases gk with
  | zero => exact absurd HA.out (by simp [dunnagelaw15_VictimLeast.l0])
  | succ k1 =>
   have H := HA.out
   clear HA
   simp only [dunnagelaw15_VictimLeast.l0] at H
   by_cases c19 : x13_1 < (l2_0.length : Int)
   ·rw [if_pos c19] at H
    have c19b0 : decide (x13_1 < (l2_0.length : Int)) = true := decide_eq_true c19
    clear c19
    by_cases c20 : 0 ≤ x13_1
    ·rw [if_pos c20] at H
     have c20b0 : decide (0 ≤ x13_1) = true := decide_eq_true c20
     clear c20
     obtain ⟨ji21, hji21⟩ : ∃ j_ : Int, (wrap64 (x13_1 - 1)) = j_ := ⟨_, rfl⟩
     replace H : (if 0 ≤ (ji21) then (if (ji21) < (l2_0.length : Int) then (if ((rd_T70 l2_0 x13_1).f0) ≤ ((rd_T70 l2_0 (ji21)).f0) then (some t104) else (dunnagelaw15_VictimLeast.l0 k1 a3 a4 t104 t105 (wrap64 (x13_1 + 1)) l0_0 l0_1 l0_2 l1_0 a1_1 a1_2 l2_0 a2_1 a2_2)) else (none)) else (none)) = some r := by first | (rw [hji21] at H; exact H) | (simp only [hji21] at H ⊢; exact H)
     have hji21w : (IntKind.i64.wrap (x13_1 - 1)) = ji21 := (i64_w _).trans hji21
     by_cases c22 : 0 ≤ (ji21)
     ·rw [if_pos c22] at H
      have c22b0 : decide (0 ≤ (ji21)) = true := decide_eq_true c22
      clear c22
      by_cases c23 : (ji21) < (l2_0.length : Int)
      ·rw [if_pos c23] at H
       have c23b0 : decide ((ji21) < (l2_0.length : Int)) = true := decide_eq_true c23
       clear c23
       by_cases c24 : ((rd_T70 l2_0 x13_1).f0) ≤ ((rd_T70 l2_0 (ji21)).f0)
       ·rw [if_pos c24] at H
        have c24b0 : decide (((rd_T70 l2_0 x13_1).f0) ≤ ((rd_T70 l2_0 (ji21)).f0)) = true := decide_eq_true c24
        clear c24
        obtain rfl := Option.some.inj H
        have hnb25 := NB103_101.out
        have hnc25 := NB101_103.out
        have hnb26 := NB103_102.out
        have hnc26 := NB102_103.out
        have hcz27_0 : wr.cell? ⟨gb103, 0, none⟩ = some (.slice A2_0 l2_0.length c2_0) := (blk_cell BK103.out 0).trans rfl
        have hcz27_1 : wr.cell? ⟨gb103, 1, none⟩ = some (.int .i64 a2_1) := (blk_cell BK103.out 1).trans rfl
        have hcz27_2 : wr.cell? ⟨gb103, 2, none⟩ = some (.int .i64 a2_2) := (blk_cell BK103.out 2).trans rfl
        have hfz27_0 := blk_frozen BK103.out 0
        have hfz27_1 := blk_frozen BK103.out 1
        have hfz27_2 := blk_frozen BK103.out 2
        try go_wp2
        have n0_ := Aside0.mk (blk_drew BK101.out)
        have n1_ := Aside0.mk (blk_drew BK102.out)
        have n2_ := Aside0.mk (blk_drew BK103.out)
        have n3_ := Aside0.mk (below_drew1 HB.out)
        clear BK101
        clear BK102
        clear BK103
        clear HB
        have BK101 := n0_
        have BK102 := n1_
        have BK103 := n2_
        have HB := n3_
        clear n0_ n1_ n2_ n3_
        have p106 : 0 ≤ (x13_1 : Int) := of_decide_eq_true F15_
        have q106 : x13_1 < (l2_0.length : Int) := of_decide_eq_true F15_
        obtain ⟨ad106, e106, hx106_0, hx106_1, hx106_2, hx106_3, hx106_4, hx106_5, hx106_6, hx106_7⟩ := at_T70 HR2_0.out x13_1 p106 q106
        have hw106_7 := hx106_7
        have hw106_6 := hx106_6
        have hw106_5 := hx106_5
        have hw106_4 := hx106_4
        have hw106_3 := hx106_3
        have hw106_2 := hx106_2
        have hw106_1 := hx106_1
        have hw106_0 := hx106_0
        cases e106
        replace hx106_0 := (HB.out.cell (World.block_lt_of_cell? w _ hx106_0)).trans hx106_0
        replace hx106_1 := (HB.out.cell (World.block_lt_of_cell? w _ hx106_1)).trans hx106_1
        replace hx106_2 := (HB.out.cell (World.block_lt_of_cell? w _ hx106_2)).trans hx106_2
        replace hx106_3 := (HB.out.cell (World.block_lt_of_cell? w _ hx106_3)).trans hx106_3
        replace hx106_4 := (HB.out.cell (World.block_lt_of_cell? w _ hx106_4)).trans hx106_4
        replace hx106_5 := (HB.out.cell (World.block_lt_of_cell? w _ hx106_5)).trans hx106_5
        replace hx106_6 := (HB.out.cell (World.block_lt_of_cell? w _ hx106_6)).trans hx106_6
        replace hx106_7 := (HB.out.cell (World.block_lt_of_cell? w _ hx106_7)).trans hx106_7
        replace p106 := eq_true p106
        replace q106 := eq_true q106
        have p107 : 0 ≤ ((ji21) : Int) := of_decide_eq_true F15_
        have q107 : (ji21) < (l2_0.length : Int) := of_decide_eq_true F15_
        obtain ⟨ad107, e107, hx107_0, hx107_1, hx107_2, hx107_3, hx107_4, hx107_5, hx107_6, hx107_7⟩ := at_T70 HR2_0.out (ji21) p107 q107
        have hw107_7 := hx107_7
        have hw107_6 := hx107_6
        have hw107_5 := hx107_5
        have hw107_4 := hx107_4
        have hw107_3 := hx107_3
        have hw107_2 := hx107_2
        have hw107_1 := hx107_1
        have hw107_0 := hx107_0
        obtain rfl : ad106 = ad107 := (by injection e107)
        replace hx107_0 := (HB.out.cell (World.block_lt_of_cell? w _ hx107_0)).trans hx107_0
        replace hx107_1 := (HB.out.cell (World.block_lt_of_cell? w _ hx107_1)).trans hx107_1
        replace hx107_2 := (HB.out.cell (World.block_lt_of_cell? w _ hx107_2)).trans hx107_2
        replace hx107_3 := (HB.out.cell (World.block_lt_of_cell? w _ hx107_3)).trans hx107_3
        replace hx107_4 := (HB.out.cell (World.block_lt_of_cell? w _ hx107_4)).trans hx107_4
        replace hx107_5 := (HB.out.cell (World.block_lt_of_cell? w _ hx107_5)).trans hx107_5
        replace hx107_6 := (HB.out.cell (World.block_lt_of_cell? w _ hx107_6)).trans hx107_6
        replace hx107_7 := (HB.out.cell (World.block_lt_of_cell? w _ hx107_7)).trans hx107_7
        replace p107 := eq_true p107
        replace q107 := eq_true q107
        refine start_ (n := 14) (S := fun w' => w'.cell? ⟨gb103, 0, none⟩ = some (.slice (some ad106) l2_0.length c2_0) ∧ w'.cell? ⟨gb103, 1, none⟩ = some (.int .i64 a2_1) ∧ w'.cell? ⟨gb103, 2, none⟩ = some (.int .i64 a2_2) ∧ w'.cell? (ad106.add ((x13_1).toNat * 8)) = some (.int .i64 ((rd_T70 l2_0 x13_1).f0)) ∧ w'.cell? ⟨(ad106.add ((x13_1).toNat * 8)).block, (ad106.add ((x13_1).toNat * 8)).off + 1, none⟩ = some (.int .i64 ((rd_T70 l2_0 x13_1).f1)) ∧ w'.cell? ⟨(ad106.add ((x13_1).toNat * 8)).block, (ad106.add ((x13_1).toNat * 8)).off + 2, none⟩ = some (.int .i64 ((rd_T70 l2_0 x13_1).f2)) ∧ w'.cell? ⟨(ad106.add ((x13_1).toNat * 8)).block, (ad106.add ((x13_1).toNat * 8)).off + 3, none⟩ = some (.int .u64 ((rd_T70 l2_0 x13_1).f3.f0)) ∧ w'.cell? ⟨(ad106.add ((x13_1).toNat * 8)).block, (ad106.add ((x13_1).toNat * 8)).off + 4, none⟩ = some (.int .u64 ((rd_T70 l2_0 x13_1).f3.f1)) ∧ w'.cell? ⟨(ad106.add ((x13_1).toNat * 8)).block, (ad106.add ((x13_1).toNat * 8)).off + 5, none⟩ = some (.int .u64 ((rd_T70 l2_0 x13_1).f3.f2)) ∧ w'.cell? ⟨(ad106.add ((x13_1).toNat * 8)).block, (ad106.add ((x13_1).toNat * 8)).off + 6, none⟩ = some (.int .u64 ((rd_T70 l2_0 x13_1).f3.f3)) ∧ w'.cell? ⟨(ad106.add ((x13_1).toNat * 8)).block, (ad106.add ((x13_1).toNat * 8)).off + 7, none⟩ = some (.int .i64 ((rd_T70 l2_0 x13_1).f4)) ∧ w'.cell? (ad106.add (((ji21)).toNat * 8)) = some (.int .i64 ((rd_T70 l2_0 (ji21)).f0)) ∧ w'.cell? ⟨(ad106.add (((ji21)).toNat * 8)).block, (ad106.add (((ji21)).toNat * 8)).off + 1, none⟩ = some (.int .i64 ((rd_T70 l2_0 (ji21)).f1)) ∧ w'.cell? ⟨(ad106.add (((ji21)).toNat * 8)).block, (ad106.add (((ji21)).toNat * 8)).off + 2, none⟩ = some (.int .i64 ((rd_T70 l2_0 (ji21)).f2)) ∧ w'.cell? ⟨(ad106.add (((ji21)).toNat * 8)).block, (ad106.add (((ji21)).toNat * 8)).off + 3, none⟩ = some (.int .u64 ((rd_T70 l2_0 (ji21)).f3.f0)) ∧ w'.cell? ⟨(ad106.add (((ji21)).toNat * 8)).block, (ad106.add (((ji21)).toNat * 8)).off + 4, none⟩ = some (.int .u64 ((rd_T70 l2_0 (ji21)).f3.f1)) ∧ w'.cell? ⟨(ad106.add (((ji21)).toNat * 8)).block, (ad106.add (((ji21)).toNat * 8)).off + 5, none⟩ = some (.int .u64 ((rd_T70 l2_0 (ji21)).f3.f2)) ∧ w'.cell? ⟨(ad106.add (((ji21)).toNat * 8)).block, (ad106.add (((ji21)).toNat * 8)).off + 6, none⟩ = some (.int .u64 ((rd_T70 l2_0 (ji21)).f3.f3)) ∧ w'.cell? ⟨(ad106.add (((ji21)).toNat * 8)).block, (ad106.add (((ji21)).toNat * 8)).off + 7, none⟩ = some (.int .i64 ((rd_T70 l2_0 (ji21)).f4))) (ds := []) #[false, false, false, false, false, false, false, false, false, false, false, false, false, false] (by kernel_rfl) rfl rfl ⟨(blk_cell BK103.out 0).trans rfl, (blk_cell BK103.out 1).trans rfl, (blk_cell BK103.out 2).trans rfl, ((HB.out.cell (World.block_lt_of_cell? w _ hw106_0)).trans hw106_0), ((HB.out.cell (World.block_lt_of_cell? w _ hw106_1)).trans hw106_1), ((HB.out.cell (World.block_lt_of_cell? w _ hw106_2)).trans hw106_2), ((HB.out.cell (World.block_lt_of_cell? w _ hw106_3)).trans hw106_3), ((HB.out.cell (World.block_lt_of_cell? w _ hw106_4)).trans hw106_4), ((HB.out.cell (World.block_lt_of_cell? w _ hw106_5)).trans hw106_5), ((HB.out.cell (World.block_lt_of_cell? w _ hw106_6)).trans hw106_6), ((HB.out.cell (World.block_lt_of_cell? w _ hw106_7)).trans hw106_7), ((HB.out.cell (World.block_lt_of_cell? w _ hw107_0)).trans hw107_0), ((HB.out.cell (World.block_lt_of_cell? w _ hw107_1)).trans hw107_1), ((HB.out.cell (World.block_lt_of_cell? w _ hw107_2)).trans hw107_2), ((HB.out.cell (World.block_lt_of_cell? w _ hw107_3)).trans hw107_3), ((HB.out.cell (World.block_lt_of_cell? w _ hw107_4)).trans hw107_4), ((HB.out.cell (World.block_lt_of_cell? w _ hw107_5)).trans hw107_5), ((HB.out.cell (World.block_lt_of_cell? w _ hw107_6)).trans hw107_6), ((HB.out.cell (World.block_lt_of_cell? w _ hw107_7)).trans hw107_7)⟩ (fun hHeld => ?_); refine with_tabW dunnagelaw15_VictimLeast.tab6 dunnagelaw15_VictimLeast.bits6 (fun HT_ HW_ => ?_)
        generalize wr.drew = w28 at BK101 BK102 BK103 HB hx106_0 hx106_1 hx106_2 hx106_3 hx106_4 hx106_5 hx106_6 hx106_7 hx107_0 hx107_1 hx107_2 hx107_3 hx107_4 hx107_5 hx107_6 hx107_7 hHeld ⊢
        refine pure_ (i := 0) (N := some 30) (v := ?_) (a' := ?_) #[true, false, false, false, false, false, false, false, false, false, false, false, false, false] rfl rfl (any_of HT_.out (by kernel_rfl)) (fun _ _ _ h => h) (Or.inl ⟨by rfl, ?_⟩) ?_ ?_
        rotate_left
        ·intro w'
         go_simp
         with_reducible rfl
        rotate_left
        ·simp only [Act.put, List.setIfInBounds_toArray, List.set_cons_zero, List.set_cons_succ, i64_w, i32_w]
         rfl
        refine pure_ (i := 2) (N := some 32) (v := ?_) (a' := ?_) #[true, false, true, false, false, false, false, false, false, false, false, false, false, false] rfl rfl (any_of HT_.out (by kernel_rfl)) (fun _ _ _ h => h) (Or.inl ⟨by rfl, ?_⟩) ?_ ?_
        rotate_left
        ·intro w'
         go_simp
         with_reducible rfl
        rotate_left
        ·simp only [Act.put, List.setIfInBounds_toArray, List.set_cons_zero, List.set_cons_succ, i64_w, i32_w]
         rfl
        refine pure_ (i := 6) (N := some 36) (v := ?_) (a' := ?_) #[true, false, true, false, false, false, true, false, false, false, false, false, false, false] rfl rfl (any_of HT_.out (by kernel_rfl)) (fun _ _ _ h => h) (Or.inl ⟨by rfl, ?_⟩) ?_ ?_
        rotate_left
        ·intro w'
         go_simp
         with_reducible rfl
        rotate_left
        ·simp only [Act.put, List.setIfInBounds_toArray, List.set_cons_zero, List.set_cons_succ, i64_w, i32_w]
         rfl
        refine pure_ (i := 8) (N := some 38) (v := ?_) (a' := ?_) #[true, false, true, false, false, false, true, false, true, false, false, false, false, false] rfl rfl (any_of HT_.out (by kernel_rfl)) (fun _ _ _ h => h) (Or.inl ⟨by rfl, ?_⟩) ?_ ?_
        rotate_left
        ·intro w'
         go_simp
         with_reducible rfl
        rotate_left
        ·simp only [Act.put, List.setIfInBounds_toArray, List.set_cons_zero, List.set_cons_succ, i64_w, i32_w]
         rfl
        refine pure_ (i := 9) (N := some 39) (v := ?_) (a' := ?_) #[true, false, true, false, false, false, true, false, true, true, false, false, false, false] rfl rfl (any_of HT_.out (by kernel_rfl)) (fun _ _ _ h => h) (Or.inl ⟨by rfl, ?_⟩) ?_ ?_
        rotate_left
        ·intro w'
         go_simp
         with_reducible rfl
        rotate_left
        ·simp only [Act.put, List.setIfInBounds_toArray, List.set_cons_zero, List.set_cons_succ, i64_w, i32_w]
         rfl
        refine take_ (i := 1) (N := some 31) (v := ?_) (a' := ?_) #[true, true, true, false, false, false, true, false, true, true, false, false, false, false] rfl rfl (take_ofW HT_.out HW_.out (by kernel_rfl)) (fun _ _ _ h => h) (Or.inl ⟨by rfl, ?_⟩) hHeld ?_ ?_
        rotate_left
        ·rintro w' ⟨s0, s1, s2, s3, s4, s5, s6, s7, s8, s9, s10, s11, s12, s13, s14, s15, s16, s17, s18⟩
         go_simp
         with_reducible rfl
        rotate_left
        ·simp only [Act.put, List.setIfInBounds_toArray, List.set_cons_zero, List.set_cons_succ, i64_w, i32_w]
         rfl
        refine pure_ (i := 3) (N := some 33) (v := ?_) (a' := ?_) #[true, true, true, true, false, false, true, false, true, true, false, false, false, false] rfl rfl (any_of HT_.out (by kernel_rfl)) (fun _ _ _ h => h) (Or.inl ⟨by rfl, ?_⟩) ?_ ?_
        rotate_left
        ·intro w'
         go_simp
         with_reducible rfl
        rotate_left
        ·simp only [Act.put, List.setIfInBounds_toArray, List.set_cons_zero, List.set_cons_succ, i64_w, i32_w]
         rfl
        refine pure_ (i := 4) (N := some 34) (v := ?_) (a' := ?_) #[true, true, true, true, true, false, true, false, true, true, false, false, false, false] rfl rfl (any_of HT_.out (by kernel_rfl)) (fun _ _ _ h => h) (Or.inl ⟨by rfl, ?_⟩) ?_ ?_
        rotate_left
        ·intro w'
         go_simp
         with_reducible rfl
        rotate_left
        ·simp only [Act.put, List.setIfInBounds_toArray, List.set_cons_zero, List.set_cons_succ, i64_w, i32_w]
         rfl
        refine take_ (i := 5) (N := some 35) (v := ?_) (a' := ?_) #[true, true, true, true, true, true, true, false, true, true, false, false, false, false] rfl rfl (take_ofW HT_.out HW_.out (by kernel_rfl)) (fun _ _ _ h => h) (Or.inl ⟨by rfl, ?_⟩) hHeld ?_ ?_
        rotate_left
        ·rintro w' ⟨s0, s1, s2, s3, s4, s5, s6, s7, s8, s9, s10, s11, s12, s13, s14, s15, s16, s17, s18⟩
         go_simp
         with_reducible rfl
        rotate_left
        ·simp only [Act.put, List.setIfInBounds_toArray, List.set_cons_zero, List.set_cons_succ, i64_w, i32_w]
         rfl
        refine take_ (i := 7) (N := some 37) (v := ?_) (a' := ?_) #[true, true, true, true, true, true, true, true, true, true, false, false, false, false] rfl rfl (take_ofW HT_.out HW_.out (by kernel_rfl)) (fun _ _ _ h => h) (Or.inl ⟨by rfl, ?_⟩) hHeld ?_ ?_
        rotate_left
        ·rintro w' ⟨s0, s1, s2, s3, s4, s5, s6, s7, s8, s9, s10, s11, s12, s13, s14, s15, s16, s17, s18⟩
         go_simp
         with_reducible rfl
        rotate_left
        ·simp only [Act.put, List.setIfInBounds_toArray, List.set_cons_zero, List.set_cons_succ, i64_w, i32_w]
         rfl
        refine pure_ (i := 10) (N := some 40) (v := ?_) (a' := ?_) #[true, true, true, true, true, true, true, true, true, true, true, false, false, false] rfl rfl (any_of HT_.out (by kernel_rfl)) (fun _ _ _ h => h) (Or.inl ⟨by rfl, ?_⟩) ?_ ?_
        rotate_left
        ·intro w'
         go_simp
         with_reducible rfl
        rotate_left
        ·simp only [Act.put, List.setIfInBounds_toArray, List.set_cons_zero, List.set_cons_succ, i64_w, i32_w]
         rfl
        refine pure_ (i := 11) (N := some 41) (v := ?_) (a' := ?_) #[true, true, true, true, true, true, true, true, true, true, true, true, false, false] rfl rfl (any_of HT_.out (by kernel_rfl)) (fun _ _ _ h => h) (Or.inl ⟨by rfl, ?_⟩) ?_ ?_
        rotate_left
        ·intro w'
         go_simp
         with_reducible rfl
        rotate_left
        ·simp only [Act.put, List.setIfInBounds_toArray, List.set_cons_zero, List.set_cons_succ, i64_w, i32_w]
         rfl
        refine take_ (i := 12) (N := some 42) (v := ?_) (a' := ?_) #[true, true, true, true, true, true, true, true, true, true, true, true, true, false] rfl rfl (take_ofW HT_.out HW_.out (by kernel_rfl)) (fun _ _ _ h => h) (Or.inl ⟨by rfl, ?_⟩) hHeld ?_ ?_
        rotate_left
        ·rintro w' ⟨s0, s1, s2, s3, s4, s5, s6, s7, s8, s9, s10, s11, s12, s13, s14, s15, s16, s17, s18⟩
         go_simp
         with_reducible rfl
        rotate_left
        ·simp only [Act.put, List.setIfInBounds_toArray, List.set_cons_zero, List.set_cons_succ, i64_w, i32_w]
         rfl
        refine pure_ (i := 13) (N := some 43) (v := ?_) (a' := ?_) #[true, true, true, true, true, true, true, true, true, true, true, true, true, true] rfl rfl (any_of HT_.out (by kernel_rfl)) (fun _ _ _ h => h) (Or.inl ⟨by rfl, ?_⟩) ?_ ?_
        rotate_left
        ·intro w'
         go_simp
         with_reducible rfl
        rotate_left
        ·simp only [Act.put, List.setIfInBounds_toArray, List.set_cons_zero, List.set_cons_succ, i64_w, i32_w]
         rfl
        refine done_ (done_of HT_.out (by kernel_rfl)) ?_
        try go_wp2
        go_ret
        exact ⟨by first | rfl | (simp [errW_none, errW_some] <;> rfl) | (simp only [← hji21]; first | rfl | (simp [errW_none, errW_some] <;> rfl)) | (simp [*, errW_none, errW_some] <;> rfl), F6_⟩
       ·rw [if_neg c24] at H
        have c24b0 : decide (((rd_T70 l2_0 x13_1).f0) ≤ ((rd_T70 l2_0 (ji21)).f0)) = false := decide_eq_false c24
        clear c24
        have H' := Aside0.mk H
        clear H
        have hnb29 := NB103_101.out
        have hnc29 := NB101_103.out
        have hnb30 := NB103_102.out
        have hnc30 := NB102_103.out
        have hcz31_0 : wr.cell? ⟨gb103, 0, none⟩ = some (.slice A2_0 l2_0.length c2_0) := (blk_cell BK103.out 0).trans rfl
        have hcz31_1 : wr.cell? ⟨gb103, 1, none⟩ = some (.int .i64 a2_1) := (blk_cell BK103.out 1).trans rfl
        have hcz31_2 : wr.cell? ⟨gb103, 2, none⟩ = some (.int .i64 a2_2) := (blk_cell BK103.out 2).trans rfl
        have hfz31_0 := blk_frozen BK103.out 0
        have hfz31_1 := blk_frozen BK103.out 1
        have hfz31_2 := blk_frozen BK103.out 2
        try go_wp2
        have n0_ := Aside0.mk (blk_drew BK101.out)
        have n1_ := Aside0.mk (blk_drew BK102.out)
        have n2_ := Aside0.mk (blk_drew BK103.out)
        have n3_ := Aside0.mk (below_drew1 HB.out)
        clear BK101
        clear BK102
        clear BK103
        clear HB
        have BK101 := n0_
        have BK102 := n1_
        have BK103 := n2_
        have HB := n3_
        clear n0_ n1_ n2_ n3_
        have p106 : 0 ≤ (x13_1 : Int) := of_decide_eq_true F15_
        have q106 : x13_1 < (l2_0.length : Int) := of_decide_eq_true F15_
        obtain ⟨ad106, e106, hx106_0, hx106_1, hx106_2, hx106_3, hx106_4, hx106_5, hx106_6, hx106_7⟩ := at_T70 HR2_0.out x13_1 p106 q106
        have hw106_7 := hx106_7
        have hw106_6 := hx106_6
        have hw106_5 := hx106_5
        have hw106_4 := hx106_4
        have hw106_3 := hx106_3
        have hw106_2 := hx106_2
        have hw106_1 := hx106_1
        have hw106_0 := hx106_0
        cases e106
        replace hx106_0 := (HB.out.cell (World.block_lt_of_cell? w _ hx106_0)).trans hx106_0
        replace hx106_1 := (HB.out.cell (World.block_lt_of_cell? w _ hx106_1)).trans hx106_1
        replace hx106_2 := (HB.out.cell (World.block_lt_of_cell? w _ hx106_2)).trans hx106_2
        replace hx106_3 := (HB.out.cell (World.block_lt_of_cell? w _ hx106_3)).trans hx106_3
        replace hx106_4 := (HB.out.cell (World.block_lt_of_cell? w _ hx106_4)).trans hx106_4
        replace hx106_5 := (HB.out.cell (World.block_lt_of_cell? w _ hx106_5)).trans hx106_5
        replace hx106_6 := (HB.out.cell (World.block_lt_of_cell? w _ hx106_6)).trans hx106_6
        replace hx106_7 := (HB.out.cell (World.block_lt_of_cell? w _ hx106_7)).trans hx106_7
        replace p106 := eq_true p106
        replace q106 := eq_true q106
        have p107 : 0 ≤ ((ji21) : Int) := of_decide_eq_true F15_
        have q107 : (ji21) < (l2_0.length : Int) := of_decide_eq_true F15_
        obtain ⟨ad107, e107, hx107_0, hx107_1, hx107_2, hx107_3, hx107_4, hx107_5, hx107_6, hx107_7⟩ := at_T70 HR2_0.out (ji21) p107 q107
        have hw107_7 := hx107_7
        have hw107_6 := hx107_6
        have hw107_5 := hx107_5
        have hw107_4 := hx107_4
        have hw107_3 := hx107_3
        have hw107_2 := hx107_2
        have hw107_1 := hx107_1
        have hw107_0 := hx107_0
        obtain rfl : ad106 = ad107 := (by injection e107)
        replace hx107_0 := (HB.out.cell (World.block_lt_of_cell? w _ hx107_0)).trans hx107_0
        replace hx107_1 := (HB.out.cell (World.block_lt_of_cell? w _ hx107_1)).trans hx107_1
        replace hx107_2 := (HB.out.cell (World.block_lt_of_cell? w _ hx107_2)).trans hx107_2
        replace hx107_3 := (HB.out.cell (World.block_lt_of_cell? w _ hx107_3)).trans hx107_3
        replace hx107_4 := (HB.out.cell (World.block_lt_of_cell? w _ hx107_4)).trans hx107_4
        replace hx107_5 := (HB.out.cell (World.block_lt_of_cell? w _ hx107_5)).trans hx107_5
        replace hx107_6 := (HB.out.cell (World.block_lt_of_cell? w _ hx107_6)).trans hx107_6
        replace hx107_7 := (HB.out.cell (World.block_lt_of_cell? w _ hx107_7)).trans hx107_7
        replace p107 := eq_true p107
        replace q107 := eq_true q107
        refine start_ (n := 14) (S := fun w' => w'.cell? ⟨gb103, 0, none⟩ = some (.slice (some ad106) l2_0.length c2_0) ∧ w'.cell? ⟨gb103, 1, none⟩ = some (.int .i64 a2_1) ∧ w'.cell? ⟨gb103, 2, none⟩ = some (.int .i64 a2_2) ∧ w'.cell? (ad106.add ((x13_1).toNat * 8)) = some (.int .i64 ((rd_T70 l2_0 x13_1).f0)) ∧ w'.cell? ⟨(ad106.add ((x13_1).toNat * 8)).block, (ad106.add ((x13_1).toNat * 8)).off + 1, none⟩ = some (.int .i64 ((rd_T70 l2_0 x13_1).f1)) ∧ w'.cell? ⟨(ad106.add ((x13_1).toNat * 8)).block, (ad106.add ((x13_1).toNat * 8)).off + 2, none⟩ = some (.int .i64 ((rd_T70 l2_0 x13_1).f2)) ∧ w'.cell? ⟨(ad106.add ((x13_1).toNat * 8)).block, (ad106.add ((x13_1).toNat * 8)).off + 3, none⟩ = some (.int .u64 ((rd_T70 l2_0 x13_1).f3.f0)) ∧ w'.cell? ⟨(ad106.add ((x13_1).toNat * 8)).block, (ad106.add ((x13_1).toNat * 8)).off + 4, none⟩ = some (.int .u64 ((rd_T70 l2_0 x13_1).f3.f1)) ∧ w'.cell? ⟨(ad106.add ((x13_1).toNat * 8)).block, (ad106.add ((x13_1).toNat * 8)).off + 5, none⟩ = some (.int .u64 ((rd_T70 l2_0 x13_1).f3.f2)) ∧ w'.cell? ⟨(ad106.add ((x13_1).toNat * 8)).block, (ad106.add ((x13_1).toNat * 8)).off + 6, none⟩ = some (.int .u64 ((rd_T70 l2_0 x13_1).f3.f3)) ∧ w'.cell? ⟨(ad106.add ((x13_1).toNat * 8)).block, (ad106.add ((x13_1).toNat * 8)).off + 7, none⟩ = some (.int .i64 ((rd_T70 l2_0 x13_1).f4)) ∧ w'.cell? (ad106.add (((ji21)).toNat * 8)) = some (.int .i64 ((rd_T70 l2_0 (ji21)).f0)) ∧ w'.cell? ⟨(ad106.add (((ji21)).toNat * 8)).block, (ad106.add (((ji21)).toNat * 8)).off + 1, none⟩ = some (.int .i64 ((rd_T70 l2_0 (ji21)).f1)) ∧ w'.cell? ⟨(ad106.add (((ji21)).toNat * 8)).block, (ad106.add (((ji21)).toNat * 8)).off + 2, none⟩ = some (.int .i64 ((rd_T70 l2_0 (ji21)).f2)) ∧ w'.cell? ⟨(ad106.add (((ji21)).toNat * 8)).block, (ad106.add (((ji21)).toNat * 8)).off + 3, none⟩ = some (.int .u64 ((rd_T70 l2_0 (ji21)).f3.f0)) ∧ w'.cell? ⟨(ad106.add (((ji21)).toNat * 8)).block, (ad106.add (((ji21)).toNat * 8)).off + 4, none⟩ = some (.int .u64 ((rd_T70 l2_0 (ji21)).f3.f1)) ∧ w'.cell? ⟨(ad106.add (((ji21)).toNat * 8)).block, (ad106.add (((ji21)).toNat * 8)).off + 5, none⟩ = some (.int .u64 ((rd_T70 l2_0 (ji21)).f3.f2)) ∧ w'.cell? ⟨(ad106.add (((ji21)).toNat * 8)).block, (ad106.add (((ji21)).toNat * 8)).off + 6, none⟩ = some (.int .u64 ((rd_T70 l2_0 (ji21)).f3.f3)) ∧ w'.cell? ⟨(ad106.add (((ji21)).toNat * 8)).block, (ad106.add (((ji21)).toNat * 8)).off + 7, none⟩ = some (.int .i64 ((rd_T70 l2_0 (ji21)).f4))) (ds := []) #[false, false, false, false, false, false, false, false, false, false, false, false, false, false] (by kernel_rfl) rfl rfl ⟨(blk_cell BK103.out 0).trans rfl, (blk_cell BK103.out 1).trans rfl, (blk_cell BK103.out 2).trans rfl, ((HB.out.cell (World.block_lt_of_cell? w _ hw106_0)).trans hw106_0), ((HB.out.cell (World.block_lt_of_cell? w _ hw106_1)).trans hw106_1), ((HB.out.cell (World.block_lt_of_cell? w _ hw106_2)).trans hw106_2), ((HB.out.cell (World.block_lt_of_cell? w _ hw106_3)).trans hw106_3), ((HB.out.cell (World.block_lt_of_cell? w _ hw106_4)).trans hw106_4), ((HB.out.cell (World.block_lt_of_cell? w _ hw106_5)).trans hw106_5), ((HB.out.cell (World.block_lt_of_cell? w _ hw106_6)).trans hw106_6), ((HB.out.cell (World.block_lt_of_cell? w _ hw106_7)).trans hw106_7), ((HB.out.cell (World.block_lt_of_cell? w _ hw107_0)).trans hw107_0), ((HB.out.cell (World.block_lt_of_cell? w _ hw107_1)).trans hw107_1), ((HB.out.cell (World.block_lt_of_cell? w _ hw107_2)).trans hw107_2), ((HB.out.cell (World.block_lt_of_cell? w _ hw107_3)).trans hw107_3), ((HB.out.cell (World.block_lt_of_cell? w _ hw107_4)).trans hw107_4), ((HB.out.cell (World.block_lt_of_cell? w _ hw107_5)).trans hw107_5), ((HB.out.cell (World.block_lt_of_cell? w _ hw107_6)).trans hw107_6), ((HB.out.cell (World.block_lt_of_cell? w _ hw107_7)).trans hw107_7)⟩ (fun hHeld => ?_); refine with_tabW dunnagelaw15_VictimLeast.tab6 dunnagelaw15_VictimLeast.bits6 (fun HT_ HW_ => ?_)
        generalize wr.drew = w32 at BK101 BK102 BK103 HB hx106_0 hx106_1 hx106_2 hx106_3 hx106_4 hx106_5 hx106_6 hx106_7 hx107_0 hx107_1 hx107_2 hx107_3 hx107_4 hx107_5 hx107_6 hx107_7 hHeld ⊢
        refine pure_ (i := 0) (N := some 30) (v := ?_) (a' := ?_) #[true, false, false, false, false, false, false, false, false, false, false, false, false, false] rfl rfl (any_of HT_.out (by kernel_rfl)) (fun _ _ _ h => h) (Or.inl ⟨by rfl, ?_⟩) ?_ ?_
        rotate_left
        ·intro w'
         go_simp
         with_reducible rfl
        rotate_left
        ·simp only [Act.put, List.setIfInBounds_toArray, List.set_cons_zero, List.set_cons_succ, i64_w, i32_w]
         rfl
        refine pure_ (i := 2) (N := some 32) (v := ?_) (a' := ?_) #[true, false, true, false, false, false, false, false, false, false, false, false, false, false] rfl rfl (any_of HT_.out (by kernel_rfl)) (fun _ _ _ h => h) (Or.inl ⟨by rfl, ?_⟩) ?_ ?_
        rotate_left
        ·intro w'
         go_simp
         with_reducible rfl
        rotate_left
        ·simp only [Act.put, List.setIfInBounds_toArray, List.set_cons_zero, List.set_cons_succ, i64_w, i32_w]
         rfl
        refine pure_ (i := 6) (N := some 36) (v := ?_) (a' := ?_) #[true, false, true, false, false, false, true, false, false, false, false, false, false, false] rfl rfl (any_of HT_.out (by kernel_rfl)) (fun _ _ _ h => h) (Or.inl ⟨by rfl, ?_⟩) ?_ ?_
        rotate_left
        ·intro w'
         go_simp
         with_reducible rfl
        rotate_left
        ·simp only [Act.put, List.setIfInBounds_toArray, List.set_cons_zero, List.set_cons_succ, i64_w, i32_w]
         rfl
        refine pure_ (i := 8) (N := some 38) (v := ?_) (a' := ?_) #[true, false, true, false, false, false, true, false, true, false, false, false, false, false] rfl rfl (any_of HT_.out (by kernel_rfl)) (fun _ _ _ h => h) (Or.inl ⟨by rfl, ?_⟩) ?_ ?_
        rotate_left
        ·intro w'
         go_simp
         with_reducible rfl
        rotate_left
        ·simp only [Act.put, List.setIfInBounds_toArray, List.set_cons_zero, List.set_cons_succ, i64_w, i32_w]
         rfl
        refine pure_ (i := 9) (N := some 39) (v := ?_) (a' := ?_) #[true, false, true, false, false, false, true, false, true, true, false, false, false, false] rfl rfl (any_of HT_.out (by kernel_rfl)) (fun _ _ _ h => h) (Or.inl ⟨by rfl, ?_⟩) ?_ ?_
        rotate_left
        ·intro w'
         go_simp
         with_reducible rfl
        rotate_left
        ·simp only [Act.put, List.setIfInBounds_toArray, List.set_cons_zero, List.set_cons_succ, i64_w, i32_w]
         rfl
        refine take_ (i := 1) (N := some 31) (v := ?_) (a' := ?_) #[true, true, true, false, false, false, true, false, true, true, false, false, false, false] rfl rfl (take_ofW HT_.out HW_.out (by kernel_rfl)) (fun _ _ _ h => h) (Or.inl ⟨by rfl, ?_⟩) hHeld ?_ ?_
        rotate_left
        ·rintro w' ⟨s0, s1, s2, s3, s4, s5, s6, s7, s8, s9, s10, s11, s12, s13, s14, s15, s16, s17, s18⟩
         go_simp
         with_reducible rfl
        rotate_left
        ·simp only [Act.put, List.setIfInBounds_toArray, List.set_cons_zero, List.set_cons_succ, i64_w, i32_w]
         rfl
        refine pure_ (i := 3) (N := some 33) (v := ?_) (a' := ?_) #[true, true, true, true, false, false, true, false, true, true, false, false, false, false] rfl rfl (any_of HT_.out (by kernel_rfl)) (fun _ _ _ h => h) (Or.inl ⟨by rfl, ?_⟩) ?_ ?_
        rotate_left
        ·intro w'
         go_simp
         with_reducible rfl
        rotate_left
        ·simp only [Act.put, List.setIfInBounds_toArray, List.set_cons_zero, List.set_cons_succ, i64_w, i32_w]
         rfl
        refine pure_ (i := 4) (N := some 34) (v := ?_) (a' := ?_) #[true, true, true, true, true, false, true, false, true, true, false, false, false, false] rfl rfl (any_of HT_.out (by kernel_rfl)) (fun _ _ _ h => h) (Or.inl ⟨by rfl, ?_⟩) ?_ ?_
        rotate_left
        ·intro w'
         go_simp
         with_reducible rfl
        rotate_left
        ·simp only [Act.put, List.setIfInBounds_toArray, List.set_cons_zero, List.set_cons_succ, i64_w, i32_w]
         rfl
        refine take_ (i := 5) (N := some 35) (v := ?_) (a' := ?_) #[true, true, true, true, true, true, true, false, true, true, false, false, false, false] rfl rfl (take_ofW HT_.out HW_.out (by kernel_rfl)) (fun _ _ _ h => h) (Or.inl ⟨by rfl, ?_⟩) hHeld ?_ ?_
        rotate_left
        ·rintro w' ⟨s0, s1, s2, s3, s4, s5, s6, s7, s8, s9, s10, s11, s12, s13, s14, s15, s16, s17, s18⟩
         go_simp
         with_reducible rfl
        rotate_left
        ·simp only [Act.put, List.setIfInBounds_toArray, List.set_cons_zero, List.set_cons_succ, i64_w, i32_w]
         rfl
        refine take_ (i := 7) (N := some 37) (v := ?_) (a' := ?_) #[true, true, true, true, true, true, true, true, true, true, false, false, false, false] rfl rfl (take_ofW HT_.out HW_.out (by kernel_rfl)) (fun _ _ _ h => h) (Or.inl ⟨by rfl, ?_⟩) hHeld ?_ ?_
        rotate_left
        ·rintro w' ⟨s0, s1, s2, s3, s4, s5, s6, s7, s8, s9, s10, s11, s12, s13, s14, s15, s16, s17, s18⟩
         go_simp
         with_reducible rfl
        rotate_left
        ·simp only [Act.put, List.setIfInBounds_toArray, List.set_cons_zero, List.set_cons_succ, i64_w, i32_w]
         rfl
        refine pure_ (i := 10) (N := some 40) (v := ?_) (a' := ?_) #[true, true, true, true, true, true, true, true, true, true, true, false, false, false] rfl rfl (any_of HT_.out (by kernel_rfl)) (fun _ _ _ h => h) (Or.inl ⟨by rfl, ?_⟩) ?_ ?_
        rotate_left
        ·intro w'
         go_simp
         with_reducible rfl
        rotate_left
        ·simp only [Act.put, List.setIfInBounds_toArray, List.set_cons_zero, List.set_cons_succ, i64_w, i32_w]
         rfl
        refine pure_ (i := 11) (N := some 41) (v := ?_) (a' := ?_) #[true, true, true, true, true, true, true, true, true, true, true, true, false, false] rfl rfl (any_of HT_.out (by kernel_rfl)) (fun _ _ _ h => h) (Or.inl ⟨by rfl, ?_⟩) ?_ ?_
        rotate_left
        ·intro w'
         go_simp
         with_reducible rfl
        rotate_left
        ·simp only [Act.put, List.setIfInBounds_toArray, List.set_cons_zero, List.set_cons_succ, i64_w, i32_w]
         rfl
        refine take_ (i := 12) (N := some 42) (v := ?_) (a' := ?_) #[true, true, true, true, true, true, true, true, true, true, true, true, true, false] rfl rfl (take_ofW HT_.out HW_.out (by kernel_rfl)) (fun _ _ _ h => h) (Or.inl ⟨by rfl, ?_⟩) hHeld ?_ ?_
        rotate_left
        ·rintro w' ⟨s0, s1, s2, s3, s4, s5, s6, s7, s8, s9, s10, s11, s12, s13, s14, s15, s16, s17, s18⟩
         go_simp
         with_reducible rfl
        rotate_left
        ·simp only [Act.put, List.setIfInBounds_toArray, List.set_cons_zero, List.set_cons_succ, i64_w, i32_w]
         rfl
        refine pure_ (i := 13) (N := some 43) (v := ?_) (a' := ?_) #[true, true, true, true, true, true, true, true, true, true, true, true, true, true] rfl rfl (any_of HT_.out (by kernel_rfl)) (fun _ _ _ h => h) (Or.inl ⟨by rfl, ?_⟩) ?_ ?_
        rotate_left
        ·intro w'
         go_simp
         with_reducible rfl
        rotate_left
        ·simp only [Act.put, List.setIfInBounds_toArray, List.set_cons_zero, List.set_cons_succ, i64_w, i32_w]
         rfl
        refine done_ (done_of HT_.out (by kernel_rfl)) ?_
        try go_wp2
        go_roundg k1
        case measure => have := HK1.out; omega
        case rel => exact ⟨(wrap64 (x13_1 + 1)), (by first | rfl | (simp; done) | (simp [*]; done)), H', ⟨by have := HK1.out; omega⟩, ⟨F19_⟩, ⟨F20_⟩, ⟨F21_⟩, ⟨F6_⟩⟩
      ·rw [if_neg c23] at H
       exact absurd H (by simp)
     ·rw [if_neg c22] at H
      exact absurd H (by simp)
    ·rw [if_neg c20] at H
     exact absurd H (by simp)
   ·rw [if_neg c19] at H
    have c19b0 : decide (x13_1 < (l2_0.length : Int)) = false := decide_eq_false c19
    clear c19
    by_cases c33 : t105 = true
    ·subst c33
     have H1 : ((victim_Choose.f k1 l0_0 l0_1 l0_2 l1_0 a1_1 a1_2 l2_0 a2_1 a2_2 a3 a4).bind fun bt108 => (if bt108.2.isNone = true then ((victim_Makes.f k1 l0_0 l0_1 l0_2 l1_0 a1_1 a1_2 l2_0 a2_1 a2_2 a3 a4 bt108.1).bind fun t113 => (if t113 = true then (dunnagelaw15_VictimLeast.l1 k1 a3 a4 t104 bt108.1 0 l0_0 l0_1 l0_2 l1_0 a1_1 a1_2 l2_0 a2_1 a2_2) else (some false))) else (if t104 = true then (some ((bt108.1.length : Int) == 0)) else (some false)))) = some r := by rw [if_pos rfl] at H; exact H
     clear H
     have H := H1
     clear H1
     replace H := Option.bind_eq_some_iff.mp H
     obtain ⟨⟨t108, t111⟩, A340, H⟩ := H
     replace H : (if t111.isNone = true then ((victim_Makes.f k1 l0_0 l0_1 l0_2 l1_0 a1_1 a1_2 l2_0 a2_1 a2_2 a3 a4 t108).bind fun t113 => (if t113 = true then (dunnagelaw15_VictimLeast.l1 k1 a3 a4 t104 t108 0 l0_0 l0_1 l0_2 l1_0 a1_1 a1_2 l2_0 a2_1 a2_2) else (some false))) else (if t104 = true then (some ((t108.length : Int) == 0)) else (some false))) = some r := H
     have A34 := Aside0.mk A340
     clear A340
     rcases t111 with _ | q112
     ·have H1 : ((victim_Makes.f k1 l0_0 l0_1 l0_2 l1_0 a1_1 a1_2 l2_0 a2_1 a2_2 a3 a4 t108).bind fun t113 => (if t113 = true then (dunnagelaw15_VictimLeast.l1 k1 a3 a4 t104 t108 0 l0_0 l0_1 l0_2 l1_0 a1_1 a1_2 l2_0 a2_1 a2_2) else (some false))) = some r := by rw [if_pos (show (none : Option Int).isNone = true by rfl)] at H; exact H
      clear H
      have H := H1
      clear H1
      try simp only [errW_none, errW_some]
      replace H := Option.bind_eq_some_iff.mp H
      obtain ⟨t113, A350, H⟩ := H
      replace H : (if t113 = true then (dunnagelaw15_VictimLeast.l1 k1 a3 a4 t104 t108 0 l0_0 l0_1 l0_2 l1_0 a1_1 a1_2 l2_0 a2_1 a2_2) else (some false)) = some r := H
      have A35 := Aside0.mk A350
      clear A350
      by_cases c36 : t113 = true
      ·subst c36
       have H1 : (dunnagelaw15_VictimLeast.l1 k1 a3 a4 t104 t108 0 l0_0 l0_1 l0_2 l1_0 a1_1 a1_2 l2_0 a2_1 a2_2) = some r := by rw [if_pos rfl] at H; exact H
       clear H
       have H := H1
       clear H1
       have H' := Aside0.mk H
       clear H
       have hnb37 := NB103_101.out
       have hnc37 := NB101_103.out
       have hnb38 := NB103_102.out
       have hnc38 := NB102_103.out
       have hcz39_0 : wr.cell? ⟨gb103, 0, none⟩ = some (.slice A2_0 l2_0.length c2_0) := (blk_cell BK103.out 0).trans rfl
       have hcz39_1 : wr.cell? ⟨gb103, 1, none⟩ = some (.int .i64 a2_1) := (blk_cell BK103.out 1).trans rfl
       have hcz39_2 : wr.cell? ⟨gb103, 2, none⟩ = some (.int .i64 a2_2) := (blk_cell BK103.out 2).trans rfl
       have hfz39_0 := blk_frozen BK103.out 0
       have hfz39_1 := blk_frozen BK103.out 1
       have hfz39_2 := blk_frozen BK103.out 2
       have hnb40 := NB101_102.out
       have hnc40 := NB102_101.out
       have hcz41_0 : wr.cell? ⟨gb101, 0, none⟩ = some (.slice A0_0 l0_0.length c0_0) := (blk_cell BK101.out 0).trans rfl
       have hcz41_1 : wr.cell? ⟨gb101, 1, none⟩ = some (.slice A0_1 l0_1.length c0_1) := (blk_cell BK101.out 1).trans rfl
       have hcz41_2 : wr.cell? ⟨gb101, 2, none⟩ = some (.slice A0_2 l0_2.length c0_2) := (blk_cell BK101.out 2).trans rfl
       have hfz41_0 := blk_frozen BK101.out 0
       have hfz41_1 := blk_frozen BK101.out 1
       have hfz41_2 := blk_frozen BK101.out 2
       have hcz42_0 : wr.cell? ⟨gb102, 0, none⟩ = some (.slice A1_0 l1_0.length c1_0) := (blk_cell BK102.out 0).trans rfl
       have hcz42_1 : wr.cell? ⟨gb102, 1, none⟩ = some (.int .i64 a1_1) := (blk_cell BK102.out 1).trans rfl
       have hcz42_2 : wr.cell? ⟨gb102, 2, none⟩ = some (.int .i64 a1_2) := (blk_cell BK102.out 2).trans rfl
       have hfz42_0 := blk_frozen BK102.out 0
       have hfz42_1 := blk_frozen BK102.out 1
       have hfz42_2 := blk_frozen BK102.out 2
       go_wp2_with (first | ((with_reducible refine gate_callee (f := 61) rfl ?_); refine goesL_ (some 54) rfl rfl Try.func61 (by kernel_rfl) rfl #[.agg #[.slice A0_0 l0_0.length c0_0, .slice A0_1 l0_1.length c0_1, .slice A0_2 l0_2.length c0_2], .agg #[.slice A1_0 l1_0.length c1_0, .int .i64 a1_1, .int .i64 a1_2], .agg #[.slice A2_0 l2_0.length c2_0, .int .i64 a2_1, .int .i64 a2_2], .int .i64 a3, .int .i64 a4] rfl F10_ ?_; (with_reducible refine (victim_Choose.calls k1 _ _ l0_0 _ _ l0_1 _ _ l0_2 _ _ l1_0 a1_1 a1_2 _ _ l2_0 a2_1 a2_2 a3 a4 t108 none _ ?side1 ?side2 ?side3 ?side4 ?side5 ?side6 ?side7 ?side8 ?side9 ?side10 A34.out).mono ?_); (case side1 => exact F11_); (case side2 => exact HC0_0.out); (case side3 => exact F12_); (case side4 => exact HC0_1.out); (case side5 => exact F13_); (case side6 => exact HC0_2.out); (case side7 => exact F14_); (case side8 => exact HC1_0.out); (case side9 => exact F9_); (case side10 => exact HC2_0.out); rintro e w43 ⟨v109, rfl, ho0, hb⟩; refine ⟨_, rfl, ?_⟩; have n0_ := Aside0.mk (Kd.R_lower ho0 (below_size F1_)); have n1_ := Aside0.mk (blk_below (g := gb101) (o := .cells #[.slice A0_0 l0_0.length c0_0, .slice A0_1 l0_1.length c0_1, .slice A0_2 l0_2.length c0_2] 96 (0, 0)) F3_ hb); have n2_ := Aside0.mk (blk_below (g := gb102) (o := .cells #[.slice A1_0 l1_0.length c1_0, .int .i64 a1_1, .int .i64 a1_2] 99 (0, 0)) F4_ hb); have n3_ := Aside0.mk (blk_below (g := gb103) (o := .cells #[.slice A2_0 l2_0.length c2_0, .int .i64 a2_1, .int .i64 a2_2] 26 (0, 0)) F5_ hb); have n4_ := Aside0.mk (below_step F1_ hb); clear BK101; clear BK102; clear BK103; clear HB; have HO110 := n0_; have BK101 := n1_; have BK102 := n2_; have BK103 := n3_; have HB := n4_; clear n0_ n1_ n2_ n3_ n4_; (try clear hb); (try clear hb2); (try clear hk); (try clear hi); (try clear ho0); (try simp only [errW_none, errW_some]); have hcz44_0 : w43.cell? ⟨gb101, 0, none⟩ = some (.slice A0_0 l0_0.length c0_0) := (blk_cell BK101.out 0).trans rfl; have hcz44_1 : w43.cell? ⟨gb101, 1, none⟩ = some (.slice A0_1 l0_1.length c0_1) := (blk_cell BK101.out 1).trans rfl; have hcz44_2 : w43.cell? ⟨gb101, 2, none⟩ = some (.slice A0_2 l0_2.length c0_2) := (blk_cell BK101.out 2).trans rfl; have hfz44_0 := blk_frozen BK101.out 0; have hfz44_1 := blk_frozen BK101.out 1; have hfz44_2 := blk_frozen BK101.out 2; have hcz45_0 : w43.cell? ⟨gb102, 0, none⟩ = some (.slice A1_0 l1_0.length c1_0) := (blk_cell BK102.out 0).trans rfl; have hcz45_1 : w43.cell? ⟨gb102, 1, none⟩ = some (.int .i64 a1_1) := (blk_cell BK102.out 1).trans rfl; have hcz45_2 : w43.cell? ⟨gb102, 2, none⟩ = some (.int .i64 a1_2) := (blk_cell BK102.out 2).trans rfl; have hfz45_0 := blk_frozen BK102.out 0; have hfz45_1 := blk_frozen BK102.out 1; have hfz45_2 := blk_frozen BK102.out 2; have hcz46_0 : w43.cell? ⟨gb103, 0, none⟩ = some (.slice A2_0 l2_0.length c2_0) := (blk_cell BK103.out 0).trans rfl; have hcz46_1 : w43.cell? ⟨gb103, 1, none⟩ = some (.int .i64 a2_1) := (blk_cell BK103.out 1).trans rfl; have hcz46_2 : w43.cell? ⟨gb103, 2, none⟩ = some (.int .i64 a2_2) := (blk_cell BK103.out 2).trans rfl; have hfz46_0 := blk_frozen BK103.out 0; have hfz46_1 := blk_frozen BK103.out 1; have hfz46_2 := blk_frozen BK103.out 2; obtain ⟨Ao47, co47, eo47⟩ := Kd.R_slice HO110.out; subst eo47) | ((with_reducible refine gate_callee (f := 62) rfl ?_); refine goesL_ (some 71) rfl rfl Try.func62 (by kernel_rfl) rfl #[.agg #[.slice A0_0 l0_0.length c0_0, .slice A0_1 l0_1.length c0_1, .slice A0_2 l0_2.length c0_2], .agg #[.slice A1_0 l1_0.length c1_0, .int .i64 a1_1, .int .i64 a1_2], .agg #[.slice A2_0 l2_0.length c2_0, .int .i64 a2_1, .int .i64 a2_2], .int .i64 a3, .int .i64 a4, .slice Ao47 t108.length co47] rfl F10_ ?_; (with_reducible refine (victim_Makes.calls k1 _ _ l0_0 _ _ l0_1 _ _ l0_2 _ _ l1_0 a1_1 a1_2 _ _ l2_0 a2_1 a2_2 a3 a4 _ _ t108 true _ ?side1 ?side2 ?side3 ?side4 ?side5 ?side6 ?side7 ?side8 ?side9 ?side10 ?side11 ?side12 A35.out).mono ?_); (case side1 => exact F11_); (case side2 => exact HC0_0.out); (case side3 => exact F12_); (case side4 => exact HC0_1.out); (case side5 => exact F13_); (case side6 => exact HC0_2.out); (case side7 => exact F14_); (case side8 => exact HC1_0.out); (case side9 => exact F9_); (case side10 => exact HC2_0.out); (case side11 => repeat (first | exact (Kd.R_reads' HO110.out).2.2 | (with_reducible refine Kd.C_alloc ?_ _) | (with_reducible refine Kd.C_drewN ?_ _) | (with_reducible refine Kd.C_drew ?_))); (case side12 => exact (Kd.R_reads' HO110.out).2.1); rintro e w48 ⟨rfl, hb⟩; refine ⟨_, rfl, ?_⟩; have n0_ := Aside0.mk (Kd.R_below (by (with_reducible repeat (first | apply Kd.R_alloc | apply Kd.R_drewN | apply Kd.R_drew)); exact HO110.out) hb); have n1_ := Aside0.mk (blk_below (g := gb101) (o := .cells #[.slice A0_0 l0_0.length c0_0, .slice A0_1 l0_1.length c0_1, .slice A0_2 l0_2.length c0_2] 96 (0, 0)) F3_ hb); have n2_ := Aside0.mk (blk_below (g := gb102) (o := .cells #[.slice A1_0 l1_0.length c1_0, .int .i64 a1_1, .int .i64 a1_2] 99 (0, 0)) F4_ hb); have n3_ := Aside0.mk (blk_below (g := gb103) (o := .cells #[.slice A2_0 l2_0.length c2_0, .int .i64 a2_1, .int .i64 a2_2] 26 (0, 0)) F5_ hb); have n4_ := Aside0.mk (below_step F1_ hb); clear HO110; clear BK101; clear BK102; clear BK103; clear HB; have HO110 := n0_; have BK101 := n1_; have BK102 := n2_; have BK103 := n3_; have HB := n4_; clear n0_ n1_ n2_ n3_ n4_; (try clear hb); (try clear hb2); (try clear hk); (try clear hi)))
       go_loopg [16] k1 (fun kq v16 w' => ∃ (x16_2 : Int), v16 = .int .i64 x16_2 ∧ Aside0 (dunnagelaw15_VictimLeast.l1 kq a3 a4 t104 t108 x16_2 l0_0 l0_1 l0_2 l1_0 a1_1 a1_2 l2_0 a2_1 a2_2 = some r) ∧ Aside0 (kq ≤ k1) ∧ Aside0 (Kd.R (Kd.int .i64) 3 w' w.heap.size (fun _ => True) (.slice Ao47 t108.length co47) t108) ∧ Aside0 (w'.heap[gb101]? = some (.cells #[(.slice A0_0 l0_0.length c0_0), (.slice A0_1 l0_1.length c0_1), (.slice A0_2 l0_2.length c0_2)] 96 (0, 0))) ∧ Aside0 (w'.heap[gb102]? = some (.cells #[(.slice A1_0 l1_0.length c1_0), .int .i64 a1_1, .int .i64 a1_2] 99 (0, 0))) ∧ Aside0 (w'.heap[gb103]? = some (.cells #[(.slice A2_0 l2_0.length c2_0), .int .i64 a2_1, .int .i64 a2_2] 26 (0, 0))) ∧ Aside0 (Below w.heap.size w w'))
       case atStart => exact ⟨(0), (by first | rfl | (simp; done) | (simp [*]; done)), H', ⟨Nat.le_refl _⟩, ⟨by (with_reducible repeat (first | apply Kd.R_alloc | apply Kd.R_drewN | apply Kd.R_drew)); exact HO110.out⟩, ⟨F19_⟩, ⟨F20_⟩, ⟨F21_⟩, ⟨F6_⟩⟩
       case round =>
        clear H'
        try clear c1
        try clear p1
        try clear q1
        try clear hx1
        try clear c2
        try clear p2
        try clear c3
        try clear c4
        try clear c5
        try clear c6
        try clear p6
        try clear p10
        try clear q10
        try clear hx10
        try clear q11
        try clear c12
        try clear c13
        try clear c15
        try clear c19
        try clear c19b0
        try clear c20
        try clear c20b0
        try clear c22
        try clear c22b0
        try clear c23
        try clear c23b0
        try clear c24
        try clear c24b0
        try clear c25
        try clear c26
        try clear c29
        try clear c30
        try clear c33
        try clear c36
        try clear c37
        try clear c38
        try clear c40
        try clear hcz14_0
        try clear hcz14_1
        try clear hcz14_2
        try clear hcz16_0
        try clear hcz16_1
        try clear hcz16_2
        try clear hcz17_0
        try clear hcz17_1
        try clear hcz17_2
        try clear hcz27_0
        try clear hcz27_1
        try clear hcz27_2
        try clear hcz31_0
        try clear hcz31_1
        try clear hcz31_2
        try clear hcz39_0
        try clear hcz39_1
        try clear hcz39_2
        try clear hcz41_0
        try clear hcz41_1
        try clear hcz41_2
        try clear hcz42_0
        try clear hcz42_1
        try clear hcz42_2
        try clear hcz44_0
        try clear hcz44_1
        try clear hcz44_2
        try clear hcz45_0
        try clear hcz45_1
        try clear hcz45_2
        try clear hcz46_0
        try clear hcz46_1
        try clear hcz46_2
        try clear hfz14_0
        try clear hfz14_1
        try clear hfz14_2
        try clear hfz16_0
        try clear hfz16_1
        try clear hfz16_2
        try clear hfz17_0
        try clear hfz17_1
        try clear hfz17_2
        try clear hfz27_0
        try clear hfz27_1
        try clear hfz27_2
        try clear hfz31_0
        try clear hfz31_1
        try clear hfz31_2
        try clear hfz39_0
        try clear hfz39_1
        try clear hfz39_2
        try clear hfz41_0
        try clear hfz41_1
        try clear hfz41_2
        try clear hfz42_0
        try clear hfz42_1
        try clear hfz42_2
        try clear hfz44_0
        try clear hfz44_1
        try clear hfz44_2
        try clear hfz45_0
        try clear hfz45_1
        try clear hfz45_2
        try clear hfz46_0
        try clear hfz46_1
        try clear hfz46_2
        try clear hx106_0
        try clear hx106_1
        try clear hx106_2
        try clear hx106_3
        try clear hx106_4
        try clear hx106_5
        try clear hx106_6
        try clear hx106_7
        try clear hx107_0
        try clear hx107_1
        try clear hx107_2
        try clear hx107_3
        try clear hx107_4
        try clear hx107_5
        try clear hx107_6
        try clear hx107_7
        try clear p106
        try clear p107
        try clear p2
        try clear q106
        try clear q107
        try clear q112
        obtain ⟨x16_2, rfl, HA, HK2, HO_14, BK101, BK102, BK103, HB⟩ := hrel
        cases gk with
        | zero => exact absurd HA.out (by simp [dunnagelaw15_VictimLeast.l1])
        | succ k2 =>
         have H := HA.out
         clear HA
         simp only [dunnagelaw15_VictimLeast.l1] at H
         by_cases c49 : x16_2 < (t108.length : Int)
         ·rw [if_pos c49] at H
          have c49b0 : decide (x16_2 < (t108.length : Int)) = true := decide_eq_true c49
          clear c49
          obtain ⟨y114, hy114⟩ : ∃ y_ : List Int, y_ = (([] : List Int)) := ⟨_, rfl⟩
          replace H : (if 0 ≤ x16_2 then (if x16_2 ≤ (t108.length : Int) then ((some (t108.take (x16_2 : Int).toNat : List Int)).bind fun y117 => (if y114.length + y117.length < 17592186044416 then ((some (y114 ++ y117 : List Int)).bind fun y121 => (if 0 ≤ (wrap64 (x16_2 + 1)) then (if (wrap64 (x16_2 + 1)) ≤ (t108.length : Int) then ((some (t108.drop ((wrap64 (x16_2 + 1)) : Int).toNat : List Int)).bind fun y124 => (if y121.length + y124.length < 17592186044416 then ((victim_Makes.f k2 l0_0 l0_1 l0_2 l1_0 a1_1 a1_2 l2_0 a2_1 a2_2 a3 a4 (y121 ++ y124)).bind fun t131 => (if t131 = true then (some false) else ((prior_May.f l2_0 a2_1 a2_2 a3 (rd t108 x16_2)).bind fun t133 => (if t133 = true then (dunnagelaw15_VictimLeast.l1 k2 a3 a4 t104 t108 (wrap64 (x16_2 + 1)) l0_0 l0_1 l0_2 l1_0 a1_1 a1_2 l2_0 a2_1 a2_2) else (some false))))) else (none))) else (none)) else (none))) else (none))) else (none)) else (none)) = some r := by first | (rw [hy114]; with_reducible exact H) | (have H2_ := (Option.bind_some _ _).symm.trans H; rw [hy114]; with_reducible exact H2_) | (have H2_ := (Option.bind_some _ _).symm.trans H; with_reducible exact H2_) | with_reducible exact H | (rw [hy114]; exact H) | exact H
          have Ny114 := Aside0.mk hy114
          clear hy114
          by_cases c50 : 0 ≤ x16_2
          ·rw [if_pos c50] at H
           have c50b0 := eq_true c50
           have c50b1 : decide (0 ≤ x16_2) = true := decide_eq_true c50
           clear c50
           by_cases c51 : x16_2 ≤ (t108.length : Int)
           ·rw [if_pos c51] at H
            have c51b0 := eq_true c51
            have c51b1 : decide (x16_2 ≤ (t108.length : Int)) = true := decide_eq_true c51
            clear c51
            obtain ⟨y117, hy117⟩ : ∃ y_ : List Int, y_ = (t108.take (x16_2 : Int).toNat) := ⟨_, rfl⟩
            replace H : (if y114.length + y117.length < 17592186044416 then ((some (y114 ++ y117 : List Int)).bind fun y121 => (if 0 ≤ (wrap64 (x16_2 + 1)) then (if (wrap64 (x16_2 + 1)) ≤ (t108.length : Int) then ((some (t108.drop ((wrap64 (x16_2 + 1)) : Int).toNat : List Int)).bind fun y124 => (if y121.length + y124.length < 17592186044416 then ((victim_Makes.f k2 l0_0 l0_1 l0_2 l1_0 a1_1 a1_2 l2_0 a2_1 a2_2 a3 a4 (y121 ++ y124)).bind fun t131 => (if t131 = true then (some false) else ((prior_May.f l2_0 a2_1 a2_2 a3 (rd t108 x16_2)).bind fun t133 => (if t133 = true then (dunnagelaw15_VictimLeast.l1 k2 a3 a4 t104 t108 (wrap64 (x16_2 + 1)) l0_0 l0_1 l0_2 l1_0 a1_1 a1_2 l2_0 a2_1 a2_2) else (some false))))) else (none))) else (none)) else (none))) else (none)) = some r := by first | (rw [hy117]; with_reducible exact H) | (have H2_ := (Option.bind_some _ _).symm.trans H; rw [hy117]; with_reducible exact H2_) | (have H2_ := (Option.bind_some _ _).symm.trans H; with_reducible exact H2_) | with_reducible exact H | (rw [hy117]; exact H) | exact H
            have Ny117 := Aside0.mk hy117
            clear hy117
            by_cases c52 : y114.length + y117.length < 17592186044416
            ·rw [if_pos c52] at H
             have LMc52 := Aside0.mk c52
             clear c52
             obtain ⟨y121, hy121⟩ : ∃ y_ : List Int, y_ = (y114 ++ y117) := ⟨_, rfl⟩
             replace H : (if 0 ≤ (wrap64 (x16_2 + 1)) then (if (wrap64 (x16_2 + 1)) ≤ (t108.length : Int) then ((some (t108.drop ((wrap64 (x16_2 + 1)) : Int).toNat : List Int)).bind fun y124 => (if y121.length + y124.length < 17592186044416 then ((victim_Makes.f k2 l0_0 l0_1 l0_2 l1_0 a1_1 a1_2 l2_0 a2_1 a2_2 a3 a4 (y121 ++ y124)).bind fun t131 => (if t131 = true then (some false) else ((prior_May.f l2_0 a2_1 a2_2 a3 (rd t108 x16_2)).bind fun t133 => (if t133 = true then (dunnagelaw15_VictimLeast.l1 k2 a3 a4 t104 t108 (wrap64 (x16_2 + 1)) l0_0 l0_1 l0_2 l1_0 a1_1 a1_2 l2_0 a2_1 a2_2) else (some false))))) else (none))) else (none)) else (none)) = some r := by first | (rw [hy121]; with_reducible exact H) | (have H2_ := (Option.bind_some _ _).symm.trans H; rw [hy121]; with_reducible exact H2_) | (have H2_ := (Option.bind_some _ _).symm.trans H; with_reducible exact H2_) | with_reducible exact H | (rw [hy121]; exact H) | exact H
             have Ny121 := Aside0.mk hy121
             clear hy121
             obtain ⟨ji53, hji53⟩ : ∃ j_ : Int, (wrap64 (x16_2 + 1)) = j_ := ⟨_, rfl⟩
             replace H : (if 0 ≤ (ji53) then (if (ji53) ≤ (t108.length : Int) then ((some (t108.drop ((ji53) : Int).toNat : List Int)).bind fun y124 => (if y121.length + y124.length < 17592186044416 then ((victim_Makes.f k2 l0_0 l0_1 l0_2 l1_0 a1_1 a1_2 l2_0 a2_1 a2_2 a3 a4 (y121 ++ y124)).bind fun t131 => (if t131 = true then (some false) else ((prior_May.f l2_0 a2_1 a2_2 a3 (rd t108 x16_2)).bind fun t133 => (if t133 = true then (dunnagelaw15_VictimLeast.l1 k2 a3 a4 t104 t108 ji53 l0_0 l0_1 l0_2 l1_0 a1_1 a1_2 l2_0 a2_1 a2_2) else (some false))))) else (none))) else (none)) else (none)) = some r := by first | (rw [hji53] at H; exact H) | (simp only [hji53] at H ⊢; exact H)
             have hji53w : (IntKind.i64.wrap (x16_2 + 1)) = ji53 := (i64_w _).trans hji53
             by_cases c54 : 0 ≤ (ji53)
             ·rw [if_pos c54] at H
              have c54b0 := eq_true c54
              have c54b1 : decide (0 ≤ (ji53)) = true := decide_eq_true c54
              clear c54
              by_cases c55 : (ji53) ≤ (t108.length : Int)
              ·rw [if_pos c55] at H
               have c55b0 := eq_true c55
               have c55b1 : decide ((ji53) ≤ (t108.length : Int)) = true := decide_eq_true c55
               clear c55
               obtain ⟨y124, hy124⟩ : ∃ y_ : List Int, y_ = (t108.drop ((ji53) : Int).toNat) := ⟨_, rfl⟩
               replace H : (if y121.length + y124.length < 17592186044416 then ((victim_Makes.f k2 l0_0 l0_1 l0_2 l1_0 a1_1 a1_2 l2_0 a2_1 a2_2 a3 a4 (y121 ++ y124)).bind fun t131 => (if t131 = true then (some false) else ((prior_May.f l2_0 a2_1 a2_2 a3 (rd t108 x16_2)).bind fun t133 => (if t133 = true then (dunnagelaw15_VictimLeast.l1 k2 a3 a4 t104 t108 ji53 l0_0 l0_1 l0_2 l1_0 a1_1 a1_2 l2_0 a2_1 a2_2) else (some false))))) else (none)) = some r := by first | (rw [hy124]; with_reducible exact H) | (have H2_ := (Option.bind_some _ _).symm.trans H; rw [hy124]; with_reducible exact H2_) | (have H2_ := (Option.bind_some _ _).symm.trans H; with_reducible exact H2_) | with_reducible exact H | (rw [hy124]; exact H) | exact H
               have Ny124 := Aside0.mk hy124
               clear hy124
               by_cases c56 : y121.length + y124.length < 17592186044416
               ·rw [if_pos c56] at H
                have LMc56 := Aside0.mk c56
                clear c56
                obtain ⟨y128, hy128⟩ : ∃ y_ : List Int, y_ = (y121 ++ y124) := ⟨_, rfl⟩
                replace H : ((victim_Makes.f k2 l0_0 l0_1 l0_2 l1_0 a1_1 a1_2 l2_0 a2_1 a2_2 a3 a4 y128).bind fun t131 => (if t131 = true then (some false) else ((prior_May.f l2_0 a2_1 a2_2 a3 (rd t108 x16_2)).bind fun t133 => (if t133 = true then (dunnagelaw15_VictimLeast.l1 k2 a3 a4 t104 t108 ji53 l0_0 l0_1 l0_2 l1_0 a1_1 a1_2 l2_0 a2_1 a2_2) else (some false))))) = some r := by first | (rw [hy128]; with_reducible exact H) | (have H2_ := (Option.bind_some _ _).symm.trans H; rw [hy128]; with_reducible exact H2_) | (have H2_ := (Option.bind_some _ _).symm.trans H; with_reducible exact H2_) | with_reducible exact H | (rw [hy128]; exact H) | exact H
                have Ny128 := Aside0.mk hy128
                clear hy128
                replace H := Option.bind_eq_some_iff.mp H
                obtain ⟨t131, A570, H⟩ := H
                replace H : (if t131 = true then (some false) else ((prior_May.f l2_0 a2_1 a2_2 a3 (rd t108 x16_2)).bind fun t133 => (if t133 = true then (dunnagelaw15_VictimLeast.l1 k2 a3 a4 t104 t108 ji53 l0_0 l0_1 l0_2 l1_0 a1_1 a1_2 l2_0 a2_1 a2_2) else (some false)))) = some r := H
                have A57 := Aside0.mk A570
                clear A570
                by_cases c58 : t131 = true
                ·subst c58
                 have H1 : (some false) = some r := by rw [if_pos rfl] at H; exact H
                 clear H
                 have H := H1
                 clear H1
                 obtain rfl := Option.some.inj H
                 try go_wp2
                 have n0_ := Aside0.mk (Kd.R_drew HO_14.out)
                 have n1_ := Aside0.mk (blk_drew BK101.out)
                 have n2_ := Aside0.mk (blk_drew BK102.out)
                 have n3_ := Aside0.mk (blk_drew BK103.out)
                 have n4_ := Aside0.mk (below_drew1 HB.out)
                 clear HO_14
                 clear BK101
                 clear BK102
                 clear BK103
                 clear HB
                 have HO_14 := n0_
                 have BK101 := n1_
                 have BK102 := n2_
                 have BK103 := n3_
                 have HB := n4_
                 clear n0_ n1_ n2_ n3_ n4_
                 have q60 : (x16_2 : Int) ≤ ((t108.length : Int) : Int) := of_decide_eq_true F15_
                 obtain ⟨i060, hi060, _, hsz60, _⟩ := info_parts info3
                 have hroom60 : t108.length ≤ co47 := (Kd.R_reads' HO_14.out).2.1
                 have hC60 : Kd.C (Kd.int .i64) _ Ao47 t108.length t108 := (Kd.R_reads' HO_14.out).2.2
                 have hcut60 := cut_to (P := Try.prog) 71 3 .i64 Try.underlying71 hi060 Ao47 t108.length co47 x16_2 (of_decide_eq_true F15_) q60 hroom60
                 have hr60 := Kd.C_take (m := (x16_2 : Int).toNat) hC60 (by omega)
                 have hy60 : y117.length = (x16_2 : Int).toNat := (by rw [Ny117.out, List.length_take]; omega)
                 rw [← Ny117.out] at hr60
                 rw [← hy60] at hcut60
                 have HR120 := Aside0.mk hr60
                 have HC120 := Aside0.mk (show y117.length ≤ co47 from by omega)
                 clear hr60 hC60 hroom60 hi060 hsz60
                 have KY60 := Aside0.mk hy60
                 clear hy60
                 have KL60 := Aside0.mk (show (x16_2 : Int).toNat ≤ t108.length from by omega)
                 replace q60 := eq_true q60
                 have q61 : ((ji53) : Int) ≤ ((t108.length : Int) : Int) := of_decide_eq_true F15_
                 obtain ⟨i061, hi061, _, hsz61, _⟩ := info_parts info3
                 have hroom61 : t108.length ≤ co47 := (Kd.R_reads' HO_14.out).2.1
                 have hC61 : Kd.C (Kd.int .i64) _ Ao47 t108.length t108 := (Kd.R_reads' HO_14.out).2.2
                 have q061 : (0 : Int) ≤ ((ji53) : Int) := of_decide_eq_true F15_
                 have hcut61 := cut_from (P := Try.prog) 71 3 .i64 Try.underlying71 hi061 1 hsz61 Ao47 t108.length co47 (ji53) q061 q61
                 have hr61 := Kd.C_drop (m := ((ji53) : Int).toNat) (c := co47) hC61 (by omega) hroom61
                 obtain ⟨A61, hA61⟩ : ∃ A1, A1 = (if co47 = ((ji53) : Int).toNat then Ao47 else (Ao47 : Option Addr).map (·.add (((ji53) : Int).toNat * 1))) := ⟨_, rfl⟩
                 obtain ⟨c61, hc61⟩ : ∃ c1, c1 = co47 - ((ji53) : Int).toNat := ⟨_, rfl⟩
                 have hy61 : y124.length = t108.length - ((ji53) : Int).toNat := (by rw [Ny124.out, List.length_drop] <;> omega)
                 rw [show (t108).drop ((ji53) : Int).toNat = y124 from Ny124.out.symm] at hr61
                 replace hr61 : Kd.C (Kd.int .i64) _ A61 y124.length y124 := (by rw [hA61]; exact hr61)
                 rw [← hy61, ← hA61, ← hc61] at hcut61
                 have HR127 := Aside0.mk hr61
                 have HC127 := Aside0.mk (show y124.length ≤ c61 from by rw [hy61, hc61]; exact Nat.sub_le_sub_right hroom61 _)
                 clear hr61 hC61 hroom61 hi061 hsz61 hc61
                 have KY61 := Aside0.mk hy61
                 have KA61 := Aside0.mk hA61
                 clear hy61 hA61
                 have KL61 := Aside0.mk (show ((ji53) : Int).toNat ≤ t108.length from by omega)
                 replace q61 := eq_true q61
                 refine start_ (n := 11) (S := fun w' => True) (ds := []) #[false, false, false, false, false, false, false, false, false, false, false] (by kernel_rfl) rfl rfl trivial (fun hHeld => ?_); refine with_tabW dunnagelaw15_VictimLeast.tab18 dunnagelaw15_VictimLeast.bits18 (fun HT_ HW_ => ?_)
                 generalize wr.drew = w59 at HO_14 BK101 BK102 BK103 HB HR120 HR127 hHeld ⊢
                 refine pure_ (i := 1) (N := some 80) (v := ?_) (a' := ?_) #[false, true, false, false, false, false, false, false, false, false, false] rfl rfl (any_of HT_.out (by kernel_rfl)) (fun _ _ _ h => h) (Or.inl ⟨by rfl, ?_⟩) ?_ ?_
                 rotate_left
                 ·intro w'
                  go_simp
                  with_reducible rfl
                 rotate_left
                 ·simp only [Act.put, List.setIfInBounds_toArray, List.set_cons_zero, List.set_cons_succ, i64_w, i32_w]
                  rfl
                 refine pure_ (i := 2) (N := some 81) (v := ?_) (a' := ?_) #[false, true, true, false, false, false, false, false, false, false, false] rfl rfl (any_of HT_.out (by kernel_rfl)) (fun _ _ _ h => h) (Or.inl ⟨by rfl, ?_⟩) ?_ ?_
                 rotate_left
                 ·intro w'
                  go_simp
                  with_reducible rfl
                 rotate_left
                 ·simp only [Act.put, List.setIfInBounds_toArray, List.set_cons_zero, List.set_cons_succ, i64_w, i32_w]
                  rfl
                 refine pure_ (i := 3) (N := some 82) (v := ?_) (a' := ?_) #[false, true, true, true, false, false, false, false, false, false, false] rfl rfl (any_of HT_.out (by kernel_rfl)) (fun _ _ _ h => h) (Or.inl ⟨by rfl, ?_⟩) ?_ ?_
                 rotate_left
                 ·intro w'
                  go_simp
                  with_reducible rfl
                 rotate_left
                 ·simp only [Act.put, List.setIfInBounds_toArray, List.set_cons_zero, List.set_cons_succ, i64_w, i32_w]
                  rfl
                 refine pure_ (i := 5) (N := some 84) (v := ?_) (a' := ?_) #[false, true, true, true, false, true, false, false, false, false, false] rfl rfl (any_of HT_.out (by kernel_rfl)) (fun _ _ _ h => h) (Or.inl ⟨by rfl, ?_⟩) ?_ ?_
                 rotate_left
                 ·intro w'
                  go_simp
                  with_reducible rfl
                 rotate_left
                 ·simp only [Act.put, List.setIfInBounds_toArray, List.set_cons_zero, List.set_cons_succ, i64_w, i32_w]
                  rfl
                 refine pure_ (i := 6) (N := some 85) (v := ?_) (a' := ?_) #[false, true, true, true, false, true, true, false, false, false, false] rfl rfl (any_of HT_.out (by kernel_rfl)) (fun _ _ _ h => h) (Or.inl ⟨by rfl, ?_⟩) ?_ ?_
                 rotate_left
                 ·intro w'
                  go_simp
                  with_reducible rfl
                 rotate_left
                 ·simp only [Act.put, List.setIfInBounds_toArray, List.set_cons_zero, List.set_cons_succ, i64_w, i32_w]
                  rfl
                 refine pure_ (i := 7) (N := some 86) (v := ?_) (a' := ?_) #[false, true, true, true, false, true, true, true, false, false, false] rfl rfl (any_of HT_.out (by kernel_rfl)) (fun _ _ _ h => h) (Or.inl ⟨by rfl, ?_⟩) ?_ ?_
                 rotate_left
                 ·intro w'
                  go_simp
                  with_reducible rfl
                 rotate_left
                 ·simp only [Act.put, List.setIfInBounds_toArray, List.set_cons_zero, List.set_cons_succ, i64_w, i32_w]
                  rfl
                 refine pure_ (i := 8) (N := some 87) (v := ?_) (a' := ?_) #[false, true, true, true, false, true, true, true, true, false, false] rfl rfl (any_of HT_.out (by kernel_rfl)) (fun _ _ _ h => h) (Or.inl ⟨by rfl, ?_⟩) ?_ ?_
                 rotate_left
                 ·intro w'
                  go_simp
                  with_reducible rfl
                 rotate_left
                 ·simp only [Act.put, List.setIfInBounds_toArray, List.set_cons_zero, List.set_cons_succ, i64_w, i32_w]
                  rfl
                 refine one_ (i := 0) (N := some 79) #[true, true, true, true, false, true, true, true, true, false, false] rfl rfl (one_of HT_.out (by kernel_rfl)) (by decide) (fun K hK => ?_)
                 refine Kd.R_lit_step (Kd.int .i64) _ 3 ?hg (N := 79) ?hd (xs := ([] : List Int)) (inner := []) (ok := fun _ => True) (okp := fun _ => True) ?hr ?hp (fun _ hk => hk) trivial (Below.refl _ _) (Nat.le_refl _) (by simp) ?_; (case hd => rfl); (case hg => rfl); (case hr => first | (go_simp; done) | (go_simp; rfl)); (case hp => exact (Reps.none _ _))
                 intro v115 w62 ho63 hb hg_ hnew_
                 clear hg_ hnew_
                 (first | rw [← Ny114.out] at ho63 | (simp only [Int.reduceToNat] at ho63; rw [← Ny114.out] at ho63))
                 have n0_ := Aside0.mk (Kd.R_elder' F2_ (Kd.R_base ho63) hb)
                 have n1_ := Aside0.mk (Kd.R_lower (Kd.R_new' ho63 (Kd.R_lt F2_)) (below_size F1_))
                 have n2_ := Aside0.mk (blk_below (g := gb101) (o := .cells #[.slice A0_0 l0_0.length c0_0, .slice A0_1 l0_1.length c0_1, .slice A0_2 l0_2.length c0_2] 96 (0, 0)) F3_ hb)
                 have n3_ := Aside0.mk (blk_below (g := gb102) (o := .cells #[.slice A1_0 l1_0.length c1_0, .int .i64 a1_1, .int .i64 a1_2] 99 (0, 0)) F4_ hb)
                 have n4_ := Aside0.mk (blk_below (g := gb103) (o := .cells #[.slice A2_0 l2_0.length c2_0, .int .i64 a2_1, .int .i64 a2_2] 26 (0, 0)) F5_ hb)
                 have n5_ := Aside0.mk (Kd.C_below F7_ hb)
                 have n6_ := Aside0.mk (Kd.C_below F8_ hb)
                 have n7_ := Aside0.mk (below_step F1_ hb)
                 clear HO_14
                 clear BK101
                 clear BK102
                 clear BK103
                 clear HR120
                 clear HR127
                 clear HB
                 have HO_14 := n0_
                 have HO116 := n1_
                 have BK101 := n2_
                 have BK102 := n3_
                 have BK103 := n4_
                 have HR120 := n5_
                 have HR127 := n6_
                 have HB := n7_
                 clear n0_ n1_ n2_ n3_ n4_ n5_ n6_ n7_
                 clear hb ho63
                 refine hK.out _ _ trivial (fun hHeld => ?_)
                 clear hK K
                 refine norm_ (a' := ?_) ?_ ?_
                 rotate_left
                 ·show Act.put _ (some 79) _ = _
                  simp only [Act.put, List.setIfInBounds_toArray, List.set_cons_zero, List.set_cons_succ, i64_w, i32_w]
                  rfl
                 refine one_ (i := 4) (N := some 83) #[true, true, true, true, true, true, true, true, true, false, false] rfl rfl (one_of HT_.out (by kernel_rfl)) (by decide) (fun K hK => ?_)
                 refine Kd.R_append_rows_step (Kd.int .i64) (w0 := w) w.heap.size (by rfl) (.tmp 79) (.tmp 82) 71 3 (.int .i64 0) 8 rfl Try.underlying71 info3 rfl (by decide) (by omega) v115 y114 y117 _ _ _ (fun k_ => some k_ ≠ (.slice Ao47 t108.length co47 : Value).ownBlock) (fun _ => False) rfl rfl ?aO ?aR (fun _ _ h => h) (fun _ h => h.elim) ?aF ?aB ?aS ?aL ?_
                 (case aR => exact F24_)
                 (case aB => exact F1_)
                 (case aF => exact (fun k_ hk => Kd.fresh' (Kd.R_lt F2_) k_ hk))
                 (case aO => exact F26_)
                 (case aS => exact (below_size F1_))
                 (case aL => have := LMc52.out; omega)
                 intro v122 w64 ho hb hg hat
                 rw [← Ny121.out] at ho
                 have n0_ := Aside0.mk (Kd.R_after (ok := (fun _ => True)) F2_ hg hat)
                 have n1_ := Aside0.mk (blk_grown (g := gb101) (o := .cells #[.slice A0_0 l0_0.length c0_0, .slice A0_1 l0_1.length c0_1, .slice A0_2 l0_2.length c0_2] 96 (0, 0)) F3_ hg (Kd.R_ne HO116.out BK101.out (by decide)))
                 have n2_ := Aside0.mk (blk_grown (g := gb102) (o := .cells #[.slice A1_0 l1_0.length c1_0, .int .i64 a1_1, .int .i64 a1_2] 99 (0, 0)) F4_ hg (Kd.R_ne HO116.out BK102.out (by decide)))
                 have n3_ := Aside0.mk (blk_grown (g := gb103) (o := .cells #[.slice A2_0 l2_0.length c2_0, .int .i64 a2_1, .int .i64 a2_2] 26 (0, 0)) F5_ hg (Kd.R_ne HO116.out BK103.out (by decide)))
                 have n4_ := Aside0.mk (hb)
                 have n5_ := Aside0.mk ((show Kd.C (Kd.int .i64) w64 Ao47 y117.length y117 from by rw [Ny117.out]; exact Kd.C_take (m := (x16_2 : Int).toNat) ((Kd.R_reads' (Kd.R_after (ok := (fun _ => True)) F2_ hg hat)).2.2) KL60.out))
                 have n6_ := Aside0.mk ((show Kd.C (Kd.int .i64) w64 A61 y124.length y124 from by rw [Ny124.out, KA61.out]; exact Kd.C_drop (m := ((ji53) : Int).toNat) (c := co47) ((Kd.R_reads' (Kd.R_after (ok := (fun _ => True)) F2_ hg hat)).2.2) KL61.out ((Kd.R_reads' (Kd.R_after (ok := (fun _ => True)) F2_ hg hat)).2.1)))
                 have n7_ := Aside0.mk (ho)
                 clear HO_14
                 clear BK101
                 clear BK102
                 clear BK103
                 clear HB
                 clear HR120
                 clear HR127
                 clear HO116
                 have HO_14 := n0_
                 have BK101 := n1_
                 have BK102 := n2_
                 have BK103 := n3_
                 have HB := n4_
                 have HR120 := n5_
                 have HR127 := n6_
                 have HO123 := n7_
                 clear n0_ n1_ n2_ n3_ n4_ n5_ n6_ n7_
                 clear ho hb hg hat
                 refine hK.out _ _ trivial (fun hHeld => ?_)
                 clear hK K
                 refine norm_ (a' := ?_) ?_ ?_
                 rotate_left
                 ·show Act.put _ (some 83) _ = _
                  simp only [Act.put, List.setIfInBounds_toArray, List.set_cons_zero, List.set_cons_succ, i64_w, i32_w]
                  rfl
                 refine one_ (i := 9) (N := some 88) #[true, true, true, true, true, true, true, true, true, true, false] rfl rfl (one_of HT_.out (by kernel_rfl)) (by decide) (fun K hK => ?_)
                 refine Kd.R_append_rows_step (Kd.int .i64) (w0 := w) w.heap.size (by rfl) (.tmp 83) (.tmp 87) 71 3 (.int .i64 0) 8 rfl Try.underlying71 info3 rfl (by decide) (by omega) v122 y121 y124 _ _ _ (fun k_ => some k_ ≠ (.slice Ao47 t108.length co47 : Value).ownBlock) (fun _ => False) rfl rfl ?aO ?aR (fun _ _ h => h) (fun _ h => h.elim) ?aF ?aB ?aS ?aL ?_
                 (case aR => exact F25_)
                 (case aB => exact F1_)
                 (case aF => exact (fun k_ hk => Kd.fresh' (Kd.R_lt F2_) k_ hk))
                 (case aO => exact F28_)
                 (case aS => exact (below_size F1_))
                 (case aL => have := LMc56.out; omega)
                 intro v129 w65 ho hb hg hat
                 rw [← Ny128.out] at ho
                 have n0_ := Aside0.mk (Kd.R_after (ok := (fun _ => True)) F2_ hg hat)
                 have n1_ := Aside0.mk (blk_grown (g := gb101) (o := .cells #[.slice A0_0 l0_0.length c0_0, .slice A0_1 l0_1.length c0_1, .slice A0_2 l0_2.length c0_2] 96 (0, 0)) F3_ hg (Kd.R_ne HO123.out BK101.out (by decide)))
                 have n2_ := Aside0.mk (blk_grown (g := gb102) (o := .cells #[.slice A1_0 l1_0.length c1_0, .int .i64 a1_1, .int .i64 a1_2] 99 (0, 0)) F4_ hg (Kd.R_ne HO123.out BK102.out (by decide)))
                 have n3_ := Aside0.mk (blk_grown (g := gb103) (o := .cells #[.slice A2_0 l2_0.length c2_0, .int .i64 a2_1, .int .i64 a2_2] 26 (0, 0)) F5_ hg (Kd.R_ne HO123.out BK103.out (by decide)))
                 have n4_ := Aside0.mk (hb)
                 have n5_ := Aside0.mk ((show Kd.C (Kd.int .i64) w65 Ao47 y117.length y117 from by rw [Ny117.out]; exact Kd.C_take (m := (x16_2 : Int).toNat) ((Kd.R_reads' (Kd.R_after (ok := (fun _ => True)) F2_ hg hat)).2.2) KL60.out))
                 have n6_ := Aside0.mk ((show Kd.C (Kd.int .i64) w65 A61 y124.length y124 from by rw [Ny124.out, KA61.out]; exact Kd.C_drop (m := ((ji53) : Int).toNat) (c := co47) ((Kd.R_reads' (Kd.R_after (ok := (fun _ => True)) F2_ hg hat)).2.2) KL61.out ((Kd.R_reads' (Kd.R_after (ok := (fun _ => True)) F2_ hg hat)).2.1)))
                 have n7_ := Aside0.mk (ho)
                 clear HO_14
                 clear BK101
                 clear BK102
                 clear BK103
                 clear HB
                 clear HR120
                 clear HR127
                 clear HO123
                 have HO_14 := n0_
                 have BK101 := n1_
                 have BK102 := n2_
                 have BK103 := n3_
                 have HB := n4_
                 have HR120 := n5_
                 have HR127 := n6_
                 have HO130 := n7_
                 clear n0_ n1_ n2_ n3_ n4_ n5_ n6_ n7_
                 clear ho hb hg hat
                 refine hK.out _ _ trivial (fun hHeld => ?_)
                 clear hK K
                 refine norm_ (a' := ?_) ?_ ?_
                 rotate_left
                 ·show Act.put _ (some 88) _ = _
                  simp only [Act.put, List.setIfInBounds_toArray, List.set_cons_zero, List.set_cons_succ, i64_w, i32_w]
                  rfl
                 refine pure_ (i := 10) (N := some 17) (v := ?_) (a' := ?_) #[true, true, true, true, true, true, true, true, true, true, true] rfl rfl (any_of HT_.out (by kernel_rfl)) (fun _ _ _ h => h) (Or.inl ⟨by rfl, ?_⟩) ?_ ?_
                 rotate_left
                 ·intro w'
                  go_simp
                  with_reducible rfl
                 rotate_left
                 ·simp only [Act.put, List.setIfInBounds_toArray, List.set_cons_zero, List.set_cons_succ, i64_w, i32_w]
                  rfl
                 refine done_ (done_of HT_.out (by kernel_rfl)) ?_
                 try go_wp2
                 have n0_ := Aside0.mk (Kd.R_drew HO_14.out)
                 have n1_ := Aside0.mk (Kd.R_drew HO130.out)
                 have n2_ := Aside0.mk (blk_drew BK101.out)
                 have n3_ := Aside0.mk (blk_drew BK102.out)
                 have n4_ := Aside0.mk (blk_drew BK103.out)
                 have n5_ := Aside0.mk (Kd.C_drew HR120.out)
                 have n6_ := Aside0.mk (Kd.C_drew HR127.out)
                 have n7_ := Aside0.mk (below_drew1 HB.out)
                 clear HO_14
                 clear HO130
                 clear BK101
                 clear BK102
                 clear BK103
                 clear HR120
                 clear HR127
                 clear HB
                 have HO_14 := n0_
                 have HO130 := n1_
                 have BK101 := n2_
                 have BK102 := n3_
                 have BK103 := n4_
                 have HR120 := n5_
                 have HR127 := n6_
                 have HB := n7_
                 clear n0_ n1_ n2_ n3_ n4_ n5_ n6_ n7_
                 obtain ⟨Ao67, co67, eo67⟩ := Kd.R_slice HO130.out
                 (first | subst eo67 | (injection eo67 with f1_ f2_ f3_; have f4_ := f1_.symm; have f5_ := f3_.symm; clear f1_ f2_ f3_; subst f4_; subst f5_))
                 refine start_ (n := 17) (S := fun w' => w'.cell? ⟨gb101, 0, none⟩ = some (.slice A0_0 l0_0.length c0_0) ∧ w'.cell? ⟨gb101, 1, none⟩ = some (.slice A0_1 l0_1.length c0_1) ∧ w'.cell? ⟨gb101, 2, none⟩ = some (.slice A0_2 l0_2.length c0_2) ∧ w'.cell? ⟨gb102, 0, none⟩ = some (.slice A1_0 l1_0.length c1_0) ∧ w'.cell? ⟨gb102, 1, none⟩ = some (.int .i64 a1_1) ∧ w'.cell? ⟨gb102, 2, none⟩ = some (.int .i64 a1_2) ∧ w'.cell? ⟨gb103, 0, none⟩ = some (.slice A2_0 l2_0.length c2_0) ∧ w'.cell? ⟨gb103, 1, none⟩ = some (.int .i64 a2_1) ∧ w'.cell? ⟨gb103, 2, none⟩ = some (.int .i64 a2_2)) (ds := []) #[false, false, false, false, false, false, false, false, false, false, false, false, false, false, false, false, false] (by kernel_rfl) rfl rfl ⟨(blk_cell BK101.out 0).trans rfl, (blk_cell BK101.out 1).trans rfl, (blk_cell BK101.out 2).trans rfl, (blk_cell BK102.out 0).trans rfl, (blk_cell BK102.out 1).trans rfl, (blk_cell BK102.out 2).trans rfl, (blk_cell BK103.out 0).trans rfl, (blk_cell BK103.out 1).trans rfl, (blk_cell BK103.out 2).trans rfl⟩ (fun hHeld => ?_); refine with_tabW dunnagelaw15_VictimLeast.tab19 dunnagelaw15_VictimLeast.bits19 (fun HT_ HW_ => ?_)
                 generalize w65.drew = w66 at HO_14 HO130 BK101 BK102 BK103 HR120 HR127 HB hHeld ⊢
                 refine pure_ (i := 3) (N := some 92) (v := ?_) (a' := ?_) #[false, false, false, true, false, false, false, false, false, false, false, false, false, false, false, false, false] rfl rfl (any_of HT_.out (by kernel_rfl)) (fun _ _ _ h => h) (Or.inl ⟨by rfl, ?_⟩) ?_ ?_
                 rotate_left
                 ·intro w'
                  go_simp
                  with_reducible rfl
                 rotate_left
                 ·simp only [Act.put, List.setIfInBounds_toArray, List.set_cons_zero, List.set_cons_succ, i64_w, i32_w]
                  rfl
                 refine pure_ (i := 4) (N := some 93) (v := ?_) (a' := ?_) #[false, false, false, true, true, false, false, false, false, false, false, false, false, false, false, false, false] rfl rfl (any_of HT_.out (by kernel_rfl)) (fun _ _ _ h => h) (Or.inl ⟨by rfl, ?_⟩) ?_ ?_
                 rotate_left
                 ·intro w'
                  go_simp
                  with_reducible rfl
                 rotate_left
                 ·simp only [Act.put, List.setIfInBounds_toArray, List.set_cons_zero, List.set_cons_succ, i64_w, i32_w]
                  rfl
                 refine pure_ (i := 5) (N := some 94) (v := ?_) (a' := ?_) #[false, false, false, true, true, true, false, false, false, false, false, false, false, false, false, false, false] rfl rfl (any_of HT_.out (by kernel_rfl)) (fun _ _ _ h => h) (Or.inl ⟨by rfl, ?_⟩) ?_ ?_
                 rotate_left
                 ·intro w'
                  go_simp
                  with_reducible rfl
                 rotate_left
                 ·simp only [Act.put, List.setIfInBounds_toArray, List.set_cons_zero, List.set_cons_succ, i64_w, i32_w]
                  rfl
                 refine take_ (i := 0) (N := some 89) (v := ?_) (a' := ?_) #[true, false, false, true, true, true, false, false, false, false, false, false, false, false, false, false, false] rfl rfl (take_ofW HT_.out HW_.out (by kernel_rfl)) (fun _ _ _ h => h) (Or.inl ⟨by rfl, ?_⟩) hHeld ?_ ?_
                 rotate_left
                 ·rintro w' ⟨s0, s1, s2, s3, s4, s5, s6, s7, s8⟩
                  go_simp
                  with_reducible rfl
                 rotate_left
                 ·simp only [Act.put, List.setIfInBounds_toArray, List.set_cons_zero, List.set_cons_succ, i64_w, i32_w]
                  rfl
                 refine take_ (i := 1) (N := some 90) (v := ?_) (a' := ?_) #[true, true, false, true, true, true, false, false, false, false, false, false, false, false, false, false, false] rfl rfl (take_ofW HT_.out HW_.out (by kernel_rfl)) (fun _ _ _ h => h) (Or.inl ⟨by rfl, ?_⟩) hHeld ?_ ?_
                 rotate_left
                 ·rintro w' ⟨s0, s1, s2, s3, s4, s5, s6, s7, s8⟩
                  go_simp
                  with_reducible rfl
                 rotate_left
                 ·simp only [Act.put, List.setIfInBounds_toArray, List.set_cons_zero, List.set_cons_succ, i64_w, i32_w]
                  rfl
                 refine take_ (i := 2) (N := some 91) (v := ?_) (a' := ?_) #[true, true, true, true, true, true, false, false, false, false, false, false, false, false, false, false, false] rfl rfl (take_ofW HT_.out HW_.out (by kernel_rfl)) (fun _ _ _ h => h) (Or.inl ⟨by rfl, ?_⟩) hHeld ?_ ?_
                 rotate_left
                 ·rintro w' ⟨s0, s1, s2, s3, s4, s5, s6, s7, s8⟩
                  go_simp
                  with_reducible rfl
                 rotate_left
                 ·simp only [Act.put, List.setIfInBounds_toArray, List.set_cons_zero, List.set_cons_succ, i64_w, i32_w]
                  rfl
                 refine one_ (i := 6) (N := some 95) #[true, true, true, true, true, true, true, false, false, false, false, false, false, false, false, false, false] rfl rfl (one_of HT_.out (by kernel_rfl)) (by decide) (fun K hK => ?_)
                 refine goes_ Try.func62 (by kernel_rfl) rfl #[.agg #[.slice A0_0 l0_0.length c0_0, .slice A0_1 l0_1.length c0_1, .slice A0_2 l0_2.length c0_2], .agg #[.slice A1_0 l1_0.length c1_0, .int .i64 a1_1, .int .i64 a1_2], .agg #[.slice A2_0 l2_0.length c2_0, .int .i64 a2_1, .int .i64 a2_2], .int .i64 a3, .int .i64 a4, .slice Ao67 y128.length co67] (by rfl) rfl rfl F10_ ?_
                 with_reducible refine (victim_Makes.calls k2 _ _ l0_0 _ _ l0_1 _ _ l0_2 _ _ l1_0 a1_1 a1_2 _ _ l2_0 a2_1 a2_2 a3 a4 _ _ y128 true _ ?side1 ?side2 ?side3 ?side4 ?side5 ?side6 ?side7 ?side8 ?side9 ?side10 ?side11 ?side12 A57.out).mono ?_
                 (case side1 => exact F11_)
                 (case side2 => exact HC0_0.out)
                 (case side3 => exact F12_)
                 (case side4 => exact HC0_1.out)
                 (case side5 => exact F13_)
                 (case side6 => exact HC0_2.out)
                 (case side7 => exact F14_)
                 (case side8 => exact HC1_0.out)
                 (case side9 => exact F9_)
                 (case side10 => exact HC2_0.out)
                 (case side11 => exact F22_)
                 (case side12 => exact (Kd.R_reads' HO130.out).2.1)
                 rintro e w68 ⟨rfl, hb⟩
                 refine ⟨_, rfl, ?_⟩
                 have n0_ := Aside0.mk (Kd.R_below F2_ hb)
                 have n1_ := Aside0.mk (Kd.R_below F16_ hb)
                 have n2_ := Aside0.mk (blk_below (g := gb101) (o := .cells #[.slice A0_0 l0_0.length c0_0, .slice A0_1 l0_1.length c0_1, .slice A0_2 l0_2.length c0_2] 96 (0, 0)) F3_ hb)
                 have n3_ := Aside0.mk (blk_below (g := gb102) (o := .cells #[.slice A1_0 l1_0.length c1_0, .int .i64 a1_1, .int .i64 a1_2] 99 (0, 0)) F4_ hb)
                 have n4_ := Aside0.mk (blk_below (g := gb103) (o := .cells #[.slice A2_0 l2_0.length c2_0, .int .i64 a2_1, .int .i64 a2_2] 26 (0, 0)) F5_ hb)
                 have n5_ := Aside0.mk (Kd.C_below F7_ hb)
                 have n6_ := Aside0.mk (Kd.C_below F8_ hb)
                 have n7_ := Aside0.mk (below_step F1_ hb)
                 clear HO_14
                 clear HO130
                 clear BK101
                 clear BK102
                 clear BK103
                 clear HR120
                 clear HR127
                 clear HB
                 have HO_14 := n0_
                 have HO130 := n1_
                 have BK101 := n2_
                 have BK102 := n3_
                 have BK103 := n4_
                 have HR120 := n5_
                 have HR127 := n6_
                 have HB := n7_
                 clear n0_ n1_ n2_ n3_ n4_ n5_ n6_ n7_
                 (try clear hb)
                 (try clear hb2)
                 (try clear hk)
                 (try clear hi)
                 refine hK.out _ _ ⟨(blk_cell BK101.out 0).trans rfl, (blk_cell BK101.out 1).trans rfl, (blk_cell BK101.out 2).trans rfl, (blk_cell BK102.out 0).trans rfl, (blk_cell BK102.out 1).trans rfl, (blk_cell BK102.out 2).trans rfl, (blk_cell BK103.out 0).trans rfl, (blk_cell BK103.out 1).trans rfl, (blk_cell BK103.out 2).trans rfl⟩ (fun hHeld => ?_)
                 clear hK K
                 refine norm_ (a' := ?_) ?_ ?_
                 rotate_left
                 ·show Act.put _ (some 95) _ = _
                  simp only [Act.put, List.setIfInBounds_toArray, List.set_cons_zero, List.set_cons_succ, i64_w, i32_w]
                  rfl
                 refine pure_ (i := 7) (N := some 96) (v := ?_) (a' := ?_) #[true, true, true, true, true, true, true, true, false, false, false, false, false, false, false, false, false] rfl rfl (any_of HT_.out (by kernel_rfl)) (fun _ _ _ h => h) (Or.inl ⟨by rfl, ?_⟩) ?_ ?_
                 rotate_left
                 ·intro w'
                  go_simp
                  with_reducible rfl
                 rotate_left
                 ·simp only [Act.put, List.setIfInBounds_toArray, List.set_cons_zero, List.set_cons_succ, i64_w, i32_w]
                  rfl
                 refine pure_ (i := 8) (N := some 97) (v := undef) (a' := ?_) #[true, true, true, true, true, true, true, true, true, false, false, false, false, false, false, false, false] rfl rfl (any_of HT_.out (by kernel_rfl)) (fun _ _ _ h => h) (Or.inr ⟨by rfl, rfl⟩) ?_ ?_
                 rotate_left
                 ·simp only [Act.put, List.setIfInBounds_toArray, List.set_cons_zero, List.set_cons_succ, i64_w, i32_w]
                  rfl
                 refine pure_ (i := 9) (N := some 98) (v := undef) (a' := ?_) #[true, true, true, true, true, true, true, true, true, true, false, false, false, false, false, false, false] rfl rfl (any_of HT_.out (by kernel_rfl)) (fun _ _ _ h => h) (Or.inr ⟨by rfl, rfl⟩) ?_ ?_
                 rotate_left
                 ·simp only [Act.put, List.setIfInBounds_toArray, List.set_cons_zero, List.set_cons_succ, i64_w, i32_w]
                  rfl
                 refine pure_ (i := 10) (N := some 99) (v := undef) (a' := ?_) #[true, true, true, true, true, true, true, true, true, true, true, false, false, false, false, false, false] rfl rfl (any_of HT_.out (by kernel_rfl)) (fun _ _ _ h => h) (Or.inr ⟨by rfl, rfl⟩) ?_ ?_
                 rotate_left
                 ·simp only [Act.put, List.setIfInBounds_toArray, List.set_cons_zero, List.set_cons_succ, i64_w, i32_w]
                  rfl
                 refine pure_ (i := 11) (N := some 100) (v := undef) (a' := ?_) #[true, true, true, true, true, true, true, true, true, true, true, true, false, false, false, false, false] rfl rfl (any_of HT_.out (by kernel_rfl)) (fun _ _ _ h => h) (Or.inr ⟨by rfl, rfl⟩) ?_ ?_
                 rotate_left
                 ·simp only [Act.put, List.setIfInBounds_toArray, List.set_cons_zero, List.set_cons_succ, i64_w, i32_w]
                  rfl
                 refine pure_ (i := 12) (N := some 101) (v := undef) (a' := ?_) #[true, true, true, true, true, true, true, true, true, true, true, true, true, false, false, false, false] rfl rfl (any_of HT_.out (by kernel_rfl)) (fun _ _ _ h => h) (Or.inr ⟨by rfl, rfl⟩) ?_ ?_
                 rotate_left
                 ·simp only [Act.put, List.setIfInBounds_toArray, List.set_cons_zero, List.set_cons_succ, i64_w, i32_w]
                  rfl
                 refine pure_ (i := 13) (N := some 102) (v := undef) (a' := ?_) #[true, true, true, true, true, true, true, true, true, true, true, true, true, true, false, false, false] rfl rfl (any_of HT_.out (by kernel_rfl)) (fun _ _ _ h => h) (Or.inr ⟨by rfl, rfl⟩) ?_ ?_
                 rotate_left
                 ·simp only [Act.put, List.setIfInBounds_toArray, List.set_cons_zero, List.set_cons_succ, i64_w, i32_w]
                  rfl
                 refine pure_ (i := 14) (N := some 103) (v := undef) (a' := ?_) #[true, true, true, true, true, true, true, true, true, true, true, true, true, true, true, false, false] rfl rfl (any_of HT_.out (by kernel_rfl)) (fun _ _ _ h => h) (Or.inr ⟨by rfl, rfl⟩) ?_ ?_
                 rotate_left
                 ·simp only [Act.put, List.setIfInBounds_toArray, List.set_cons_zero, List.set_cons_succ, i64_w, i32_w]
                  rfl
                 refine pure_ (i := 15) (N := some 104) (v := undef) (a' := ?_) #[true, true, true, true, true, true, true, true, true, true, true, true, true, true, true, true, false] rfl rfl (any_of HT_.out (by kernel_rfl)) (fun _ _ _ h => h) (Or.inr ⟨by rfl, rfl⟩) ?_ ?_
                 rotate_left
                 ·simp only [Act.put, List.setIfInBounds_toArray, List.set_cons_zero, List.set_cons_succ, i64_w, i32_w]
                  rfl
                 refine pure_ (i := 16) (N := some 105) (v := ?_) (a' := ?_) #[true, true, true, true, true, true, true, true, true, true, true, true, true, true, true, true, true] rfl rfl (any_of HT_.out (by kernel_rfl)) (fun _ _ _ h => h) (Or.inl ⟨by rfl, ?_⟩) ?_ ?_
                 rotate_left
                 ·intro w'
                  go_simp
                  with_reducible rfl
                 rotate_left
                 ·simp only [Act.put, List.setIfInBounds_toArray, List.set_cons_zero, List.set_cons_succ, i64_w, i32_w]
                  rfl
                 refine done_ (done_of HT_.out (by kernel_rfl)) ?_
                 try go_wp2
                 go_ret
                 exact ⟨by first | rfl | (simp [errW_none, errW_some] <;> rfl) | (simp only [← hji53]; first | rfl | (simp [errW_none, errW_some] <;> rfl)) | (simp [*, errW_none, errW_some] <;> rfl), F6_⟩
                ·replace c58 := Bool.eq_false_iff.mpr c58
                 subst c58
                 have H1 : ((prior_May.f l2_0 a2_1 a2_2 a3 (rd t108 x16_2)).bind fun t133 => (if t133 = true then (dunnagelaw15_VictimLeast.l1 k2 a3 a4 t104 t108 ji53 l0_0 l0_1 l0_2 l1_0 a1_1 a1_2 l2_0 a2_1 a2_2) else (some false))) = some r := by rw [if_neg (show ¬ (false = true) by decide)] at H; exact H
                 clear H
                 have H := H1
                 clear H1
                 replace H := Option.bind_eq_some_iff.mp H
                 obtain ⟨t133, A690, H⟩ := H
                 replace H : (if t133 = true then (dunnagelaw15_VictimLeast.l1 k2 a3 a4 t104 t108 ji53 l0_0 l0_1 l0_2 l1_0 a1_1 a1_2 l2_0 a2_1 a2_2) else (some false)) = some r := H
                 have A69 := Aside0.mk A690
                 clear A690
                 by_cases c70 : t133 = true
                 ·subst c70
                  have H1 : (dunnagelaw15_VictimLeast.l1 k2 a3 a4 t104 t108 ji53 l0_0 l0_1 l0_2 l1_0 a1_1 a1_2 l2_0 a2_1 a2_2) = some r := by rw [if_pos rfl] at H; exact H
                  clear H
                  have H := H1
                  clear H1
                  have H' := Aside0.mk H
                  clear H
                  try go_wp2
                  have n0_ := Aside0.mk (Kd.R_drew HO_14.out)
                  have n1_ := Aside0.mk (blk_drew BK101.out)
                  have n2_ := Aside0.mk (blk_drew BK102.out)
                  have n3_ := Aside0.mk (blk_drew BK103.out)
                  have n4_ := Aside0.mk (below_drew1 HB.out)
                  clear HO_14
                  clear BK101
                  clear BK102
                  clear BK103
                  clear HB
                  have HO_14 := n0_
                  have BK101 := n1_
                  have BK102 := n2_
                  have BK103 := n3_
                  have HB := n4_
                  clear n0_ n1_ n2_ n3_ n4_
                  have q72 : (x16_2 : Int) ≤ ((t108.length : Int) : Int) := of_decide_eq_true F15_
                  obtain ⟨i072, hi072, _, hsz72, _⟩ := info_parts info3
                  have hroom72 : t108.length ≤ co47 := (Kd.R_reads' HO_14.out).2.1
                  have hC72 : Kd.C (Kd.int .i64) _ Ao47 t108.length t108 := (Kd.R_reads' HO_14.out).2.2
                  have hcut72 := cut_to (P := Try.prog) 71 3 .i64 Try.underlying71 hi072 Ao47 t108.length co47 x16_2 (of_decide_eq_true F15_) q72 hroom72
                  have hr72 := Kd.C_take (m := (x16_2 : Int).toNat) hC72 (by omega)
                  have hy72 : y117.length = (x16_2 : Int).toNat := (by rw [Ny117.out, List.length_take]; omega)
                  rw [← Ny117.out] at hr72
                  rw [← hy72] at hcut72
                  have HR120 := Aside0.mk hr72
                  have HC120 := Aside0.mk (show y117.length ≤ co47 from by omega)
                  clear hr72 hC72 hroom72 hi072 hsz72
                  have KY72 := Aside0.mk hy72
                  clear hy72
                  have KL72 := Aside0.mk (show (x16_2 : Int).toNat ≤ t108.length from by omega)
                  replace q72 := eq_true q72
                  have q73 : ((ji53) : Int) ≤ ((t108.length : Int) : Int) := of_decide_eq_true F15_
                  obtain ⟨i073, hi073, _, hsz73, _⟩ := info_parts info3
                  have hroom73 : t108.length ≤ co47 := (Kd.R_reads' HO_14.out).2.1
                  have hC73 : Kd.C (Kd.int .i64) _ Ao47 t108.length t108 := (Kd.R_reads' HO_14.out).2.2
                  have q073 : (0 : Int) ≤ ((ji53) : Int) := of_decide_eq_true F15_
                  have hcut73 := cut_from (P := Try.prog) 71 3 .i64 Try.underlying71 hi073 1 hsz73 Ao47 t108.length co47 (ji53) q073 q73
                  have hr73 := Kd.C_drop (m := ((ji53) : Int).toNat) (c := co47) hC73 (by omega) hroom73
                  obtain ⟨A73, hA73⟩ : ∃ A1, A1 = (if co47 = ((ji53) : Int).toNat then Ao47 else (Ao47 : Option Addr).map (·.add (((ji53) : Int).toNat * 1))) := ⟨_, rfl⟩
                  obtain ⟨c73, hc73⟩ : ∃ c1, c1 = co47 - ((ji53) : Int).toNat := ⟨_, rfl⟩
                  have hy73 : y124.length = t108.length - ((ji53) : Int).toNat := (by rw [Ny124.out, List.length_drop] <;> omega)
                  rw [show (t108).drop ((ji53) : Int).toNat = y124 from Ny124.out.symm] at hr73
                  replace hr73 : Kd.C (Kd.int .i64) _ A73 y124.length y124 := (by rw [hA73]; exact hr73)
                  rw [← hy73, ← hA73, ← hc73] at hcut73
                  have HR127 := Aside0.mk hr73
                  have HC127 := Aside0.mk (show y124.length ≤ c73 from by rw [hy73, hc73]; exact Nat.sub_le_sub_right hroom73 _)
                  clear hr73 hC73 hroom73 hi073 hsz73 hc73
                  have KY73 := Aside0.mk hy73
                  have KA73 := Aside0.mk hA73
                  clear hy73 hA73
                  have KL73 := Aside0.mk (show ((ji53) : Int).toNat ≤ t108.length from by omega)
                  replace q73 := eq_true q73
                  refine start_ (n := 11) (S := fun w' => True) (ds := []) #[false, false, false, false, false, false, false, false, false, false, false] (by kernel_rfl) rfl rfl trivial (fun hHeld => ?_); refine with_tabW dunnagelaw15_VictimLeast.tab18 dunnagelaw15_VictimLeast.bits18 (fun HT_ HW_ => ?_)
                  generalize wr.drew = w71 at HO_14 BK101 BK102 BK103 HB HR120 HR127 hHeld ⊢
                  refine pure_ (i := 1) (N := some 80) (v := ?_) (a' := ?_) #[false, true, false, false, false, false, false, false, false, false, false] rfl rfl (any_of HT_.out (by kernel_rfl)) (fun _ _ _ h => h) (Or.inl ⟨by rfl, ?_⟩) ?_ ?_
                  rotate_left
                  ·intro w'
                   go_simp
                   with_reducible rfl
                  rotate_left
                  ·simp only [Act.put, List.setIfInBounds_toArray, List.set_cons_zero, List.set_cons_succ, i64_w, i32_w]
                   rfl
                  refine pure_ (i := 2) (N := some 81) (v := ?_) (a' := ?_) #[false, true, true, false, false, false, false, false, false, false, false] rfl rfl (any_of HT_.out (by kernel_rfl)) (fun _ _ _ h => h) (Or.inl ⟨by rfl, ?_⟩) ?_ ?_
                  rotate_left
                  ·intro w'
                   go_simp
                   with_reducible rfl
                  rotate_left
                  ·simp only [Act.put, List.setIfInBounds_toArray, List.set_cons_zero, List.set_cons_succ, i64_w, i32_w]
                   rfl
                  refine pure_ (i := 3) (N := some 82) (v := ?_) (a' := ?_) #[false, true, true, true, false, false, false, false, false, false, false] rfl rfl (any_of HT_.out (by kernel_rfl)) (fun _ _ _ h => h) (Or.inl ⟨by rfl, ?_⟩) ?_ ?_
                  rotate_left
                  ·intro w'
                   go_simp
                   with_reducible rfl
                  rotate_left
                  ·simp only [Act.put, List.setIfInBounds_toArray, List.set_cons_zero, List.set_cons_succ, i64_w, i32_w]
                   rfl
                  refine pure_ (i := 5) (N := some 84) (v := ?_) (a' := ?_) #[false, true, true, true, false, true, false, false, false, false, false] rfl rfl (any_of HT_.out (by kernel_rfl)) (fun _ _ _ h => h) (Or.inl ⟨by rfl, ?_⟩) ?_ ?_
                  rotate_left
                  ·intro w'
                   go_simp
                   with_reducible rfl
                  rotate_left
                  ·simp only [Act.put, List.setIfInBounds_toArray, List.set_cons_zero, List.set_cons_succ, i64_w, i32_w]
                   rfl
                  refine pure_ (i := 6) (N := some 85) (v := ?_) (a' := ?_) #[false, true, true, true, false, true, true, false, false, false, false] rfl rfl (any_of HT_.out (by kernel_rfl)) (fun _ _ _ h => h) (Or.inl ⟨by rfl, ?_⟩) ?_ ?_
                  rotate_left
                  ·intro w'
                   go_simp
                   with_reducible rfl
                  rotate_left
                  ·simp only [Act.put, List.setIfInBounds_toArray, List.set_cons_zero, List.set_cons_succ, i64_w, i32_w]
                   rfl
                  refine pure_ (i := 7) (N := some 86) (v := ?_) (a' := ?_) #[false, true, true, true, false, true, true, true, false, false, false] rfl rfl (any_of HT_.out (by kernel_rfl)) (fun _ _ _ h => h) (Or.inl ⟨by rfl, ?_⟩) ?_ ?_
                  rotate_left
                  ·intro w'
                   go_simp
                   with_reducible rfl
                  rotate_left
                  ·simp only [Act.put, List.setIfInBounds_toArray, List.set_cons_zero, List.set_cons_succ, i64_w, i32_w]
                   rfl
                  refine pure_ (i := 8) (N := some 87) (v := ?_) (a' := ?_) #[false, true, true, true, false, true, true, true, true, false, false] rfl rfl (any_of HT_.out (by kernel_rfl)) (fun _ _ _ h => h) (Or.inl ⟨by rfl, ?_⟩) ?_ ?_
                  rotate_left
                  ·intro w'
                   go_simp
                   with_reducible rfl
                  rotate_left
                  ·simp only [Act.put, List.setIfInBounds_toArray, List.set_cons_zero, List.set_cons_succ, i64_w, i32_w]
                   rfl
                  refine one_ (i := 0) (N := some 79) #[true, true, true, true, false, true, true, true, true, false, false] rfl rfl (one_of HT_.out (by kernel_rfl)) (by decide) (fun K hK => ?_)
                  refine Kd.R_lit_step (Kd.int .i64) _ 3 ?hg (N := 79) ?hd (xs := ([] : List Int)) (inner := []) (ok := fun _ => True) (okp := fun _ => True) ?hr ?hp (fun _ hk => hk) trivial (Below.refl _ _) (Nat.le_refl _) (by simp) ?_; (case hd => rfl); (case hg => rfl); (case hr => first | (go_simp; done) | (go_simp; rfl)); (case hp => exact (Reps.none _ _))
                  intro v115 w74 ho75 hb hg_ hnew_
                  clear hg_ hnew_
                  (first | rw [← Ny114.out] at ho75 | (simp only [Int.reduceToNat] at ho75; rw [← Ny114.out] at ho75))
                  have n0_ := Aside0.mk (Kd.R_elder' F2_ (Kd.R_base ho75) hb)
                  have n1_ := Aside0.mk (Kd.R_lower (Kd.R_new' ho75 (Kd.R_lt F2_)) (below_size F1_))
                  have n2_ := Aside0.mk (blk_below (g := gb101) (o := .cells #[.slice A0_0 l0_0.length c0_0, .slice A0_1 l0_1.length c0_1, .slice A0_2 l0_2.length c0_2] 96 (0, 0)) F3_ hb)
                  have n3_ := Aside0.mk (blk_below (g := gb102) (o := .cells #[.slice A1_0 l1_0.length c1_0, .int .i64 a1_1, .int .i64 a1_2] 99 (0, 0)) F4_ hb)
                  have n4_ := Aside0.mk (blk_below (g := gb103) (o := .cells #[.slice A2_0 l2_0.length c2_0, .int .i64 a2_1, .int .i64 a2_2] 26 (0, 0)) F5_ hb)
                  have n5_ := Aside0.mk (Kd.C_below F7_ hb)
                  have n6_ := Aside0.mk (Kd.C_below F8_ hb)
                  have n7_ := Aside0.mk (below_step F1_ hb)
                  clear HO_14
                  clear BK101
                  clear BK102
                  clear BK103
                  clear HR120
                  clear HR127
                  clear HB
                  have HO_14 := n0_
                  have HO116 := n1_
                  have BK101 := n2_
                  have BK102 := n3_
                  have BK103 := n4_
                  have HR120 := n5_
                  have HR127 := n6_
                  have HB := n7_
                  clear n0_ n1_ n2_ n3_ n4_ n5_ n6_ n7_
                  clear hb ho75
                  refine hK.out _ _ trivial (fun hHeld => ?_)
                  clear hK K
                  refine norm_ (a' := ?_) ?_ ?_
                  rotate_left
                  ·show Act.put _ (some 79) _ = _
                   simp only [Act.put, List.setIfInBounds_toArray, List.set_cons_zero, List.set_cons_succ, i64_w, i32_w]
                   rfl
                  refine one_ (i := 4) (N := some 83) #[true, true, true, true, true, true, true, true, true, false, false] rfl rfl (one_of HT_.out (by kernel_rfl)) (by decide) (fun K hK => ?_)
                  refine Kd.R_append_rows_step (Kd.int .i64) (w0 := w) w.heap.size (by rfl) (.tmp 79) (.tmp 82) 71 3 (.int .i64 0) 8 rfl Try.underlying71 info3 rfl (by decide) (by omega) v115 y114 y117 _ _ _ (fun k_ => some k_ ≠ (.slice Ao47 t108.length co47 : Value).ownBlock) (fun _ => False) rfl rfl ?aO ?aR (fun _ _ h => h) (fun _ h => h.elim) ?aF ?aB ?aS ?aL ?_
                  (case aR => exact F24_)
                  (case aB => exact F1_)
                  (case aF => exact (fun k_ hk => Kd.fresh' (Kd.R_lt F2_) k_ hk))
                  (case aO => exact F26_)
                  (case aS => exact (below_size F1_))
                  (case aL => have := LMc52.out; omega)
                  intro v122 w76 ho hb hg hat
                  rw [← Ny121.out] at ho
                  have n0_ := Aside0.mk (Kd.R_after (ok := (fun _ => True)) F2_ hg hat)
                  have n1_ := Aside0.mk (blk_grown (g := gb101) (o := .cells #[.slice A0_0 l0_0.length c0_0, .slice A0_1 l0_1.length c0_1, .slice A0_2 l0_2.length c0_2] 96 (0, 0)) F3_ hg (Kd.R_ne HO116.out BK101.out (by decide)))
                  have n2_ := Aside0.mk (blk_grown (g := gb102) (o := .cells #[.slice A1_0 l1_0.length c1_0, .int .i64 a1_1, .int .i64 a1_2] 99 (0, 0)) F4_ hg (Kd.R_ne HO116.out BK102.out (by decide)))
                  have n3_ := Aside0.mk (blk_grown (g := gb103) (o := .cells #[.slice A2_0 l2_0.length c2_0, .int .i64 a2_1, .int .i64 a2_2] 26 (0, 0)) F5_ hg (Kd.R_ne HO116.out BK103.out (by decide)))
                  have n4_ := Aside0.mk (hb)
                  have n5_ := Aside0.mk ((show Kd.C (Kd.int .i64) w76 Ao47 y117.length y117 from by rw [Ny117.out]; exact Kd.C_take (m := (x16_2 : Int).toNat) ((Kd.R_reads' (Kd.R_after (ok := (fun _ => True)) F2_ hg hat)).2.2) KL72.out))
                  have n6_ := Aside0.mk ((show Kd.C (Kd.int .i64) w76 A73 y124.length y124 from by rw [Ny124.out, KA73.out]; exact Kd.C_drop (m := ((ji53) : Int).toNat) (c := co47) ((Kd.R_reads' (Kd.R_after (ok := (fun _ => True)) F2_ hg hat)).2.2) KL73.out ((Kd.R_reads' (Kd.R_after (ok := (fun _ => True)) F2_ hg hat)).2.1)))
                  have n7_ := Aside0.mk (ho)
                  clear HO_14
                  clear BK101
                  clear BK102
                  clear BK103
                  clear HB
                  clear HR120
                  clear HR127
                  clear HO116
                  have HO_14 := n0_
                  have BK101 := n1_
                  have BK102 := n2_
                  have BK103 := n3_
                  have HB := n4_
                  have HR120 := n5_
                  have HR127 := n6_
                  have HO123 := n7_
                  clear n0_ n1_ n2_ n3_ n4_ n5_ n6_ n7_
                  clear ho hb hg hat
                  refine hK.out _ _ trivial (fun hHeld => ?_)
                  clear hK K
                  refine norm_ (a' := ?_) ?_ ?_
                  rotate_left
                  ·show Act.put _ (some 83) _ = _
                   simp only [Act.put, List.setIfInBounds_toArray, List.set_cons_zero, List.set_cons_succ, i64_w, i32_w]
                   rfl
                  refine one_ (i := 9) (N := some 88) #[true, true, true, true, true, true, true, true, true, true, false] rfl rfl (one_of HT_.out (by kernel_rfl)) (by decide) (fun K hK => ?_)
                  refine Kd.R_append_rows_step (Kd.int .i64) (w0 := w) w.heap.size (by rfl) (.tmp 83) (.tmp 87) 71 3 (.int .i64 0) 8 rfl Try.underlying71 info3 rfl (by decide) (by omega) v122 y121 y124 _ _ _ (fun k_ => some k_ ≠ (.slice Ao47 t108.length co47 : Value).ownBlock) (fun _ => False) rfl rfl ?aO ?aR (fun _ _ h => h) (fun _ h => h.elim) ?aF ?aB ?aS ?aL ?_
                  (case aR => exact F25_)
                  (case aB => exact F1_)
                  (case aF => exact (fun k_ hk => Kd.fresh' (Kd.R_lt F2_) k_ hk))
                  (case aO => exact F28_)
                  (case aS => exact (below_size F1_))
                  (case aL => have := LMc56.out; omega)
                  intro v129 w77 ho hb hg hat
                  rw [← Ny128.out] at ho
                  have n0_ := Aside0.mk (Kd.R_after (ok := (fun _ => True)) F2_ hg hat)
                  have n1_ := Aside0.mk (blk_grown (g := gb101) (o := .cells #[.slice A0_0 l0_0.length c0_0, .slice A0_1 l0_1.length c0_1, .slice A0_2 l0_2.length c0_2] 96 (0, 0)) F3_ hg (Kd.R_ne HO123.out BK101.out (by decide)))
                  have n2_ := Aside0.mk (blk_grown (g := gb102) (o := .cells #[.slice A1_0 l1_0.length c1_0, .int .i64 a1_1, .int .i64 a1_2] 99 (0, 0)) F4_ hg (Kd.R_ne HO123.out BK102.out (by decide)))
                  have n3_ := Aside0.mk (blk_grown (g := gb103) (o := .cells #[.slice A2_0 l2_0.length c2_0, .int .i64 a2_1, .int .i64 a2_2] 26 (0, 0)) F5_ hg (Kd.R_ne HO123.out BK103.out (by decide)))
                  have n4_ := Aside0.mk (hb)
                  have n5_ := Aside0.mk ((show Kd.C (Kd.int .i64) w77 Ao47 y117.length y117 from by rw [Ny117.out]; exact Kd.C_take (m := (x16_2 : Int).toNat) ((Kd.R_reads' (Kd.R_after (ok := (fun _ => True)) F2_ hg hat)).2.2) KL72.out))
                  have n6_ := Aside0.mk ((show Kd.C (Kd.int .i64) w77 A73 y124.length y124 from by rw [Ny124.out, KA73.out]; exact Kd.C_drop (m := ((ji53) : Int).toNat) (c := co47) ((Kd.R_reads' (Kd.R_after (ok := (fun _ => True)) F2_ hg hat)).2.2) KL73.out ((Kd.R_reads' (Kd.R_after (ok := (fun _ => True)) F2_ hg hat)).2.1)))
                  have n7_ := Aside0.mk (ho)
                  clear HO_14
                  clear BK101
                  clear BK102
                  clear BK103
                  clear HB
                  clear HR120
                  clear HR127
                  clear HO123
                  have HO_14 := n0_
                  have BK101 := n1_
                  have BK102 := n2_
                  have BK103 := n3_
                  have HB := n4_
                  have HR120 := n5_
                  have HR127 := n6_
                  have HO130 := n7_
                  clear n0_ n1_ n2_ n3_ n4_ n5_ n6_ n7_
                  clear ho hb hg hat
                  refine hK.out _ _ trivial (fun hHeld => ?_)
                  clear hK K
                  refine norm_ (a' := ?_) ?_ ?_
                  rotate_left
                  ·show Act.put _ (some 88) _ = _
                   simp only [Act.put, List.setIfInBounds_toArray, List.set_cons_zero, List.set_cons_succ, i64_w, i32_w]
                   rfl
                  refine pure_ (i := 10) (N := some 17) (v := ?_) (a' := ?_) #[true, true, true, true, true, true, true, true, true, true, true] rfl rfl (any_of HT_.out (by kernel_rfl)) (fun _ _ _ h => h) (Or.inl ⟨by rfl, ?_⟩) ?_ ?_
                  rotate_left
                  ·intro w'
                   go_simp
                   with_reducible rfl
                  rotate_left
                  ·simp only [Act.put, List.setIfInBounds_toArray, List.set_cons_zero, List.set_cons_succ, i64_w, i32_w]
                   rfl
                  refine done_ (done_of HT_.out (by kernel_rfl)) ?_
                  try go_wp2
                  have n0_ := Aside0.mk (Kd.R_drew HO_14.out)
                  have n1_ := Aside0.mk (Kd.R_drew HO130.out)
                  have n2_ := Aside0.mk (blk_drew BK101.out)
                  have n3_ := Aside0.mk (blk_drew BK102.out)
                  have n4_ := Aside0.mk (blk_drew BK103.out)
                  have n5_ := Aside0.mk (Kd.C_drew HR120.out)
                  have n6_ := Aside0.mk (Kd.C_drew HR127.out)
                  have n7_ := Aside0.mk (below_drew1 HB.out)
                  clear HO_14
                  clear HO130
                  clear BK101
                  clear BK102
                  clear BK103
                  clear HR120
                  clear HR127
                  clear HB
                  have HO_14 := n0_
                  have HO130 := n1_
                  have BK101 := n2_
                  have BK102 := n3_
                  have BK103 := n4_
                  have HR120 := n5_
                  have HR127 := n6_
                  have HB := n7_
                  clear n0_ n1_ n2_ n3_ n4_ n5_ n6_ n7_
                  obtain ⟨Ao79, co79, eo79⟩ := Kd.R_slice HO130.out
                  (first | subst eo79 | (injection eo79 with f1_ f2_ f3_; have f4_ := f1_.symm; have f5_ := f3_.symm; clear f1_ f2_ f3_; subst f4_; subst f5_))
                  have p132 : 0 ≤ (x16_2 : Int) := of_decide_eq_true F15_
                  have q132 : x16_2 < (t108.length : Int) := of_decide_eq_true F15_
                  obtain ⟨ad132, e132, hx132_0⟩ := Kd.at_int (Kd.R_reads' HO_14.out).2.2 x16_2 p132 q132
                  cases e132
                  replace p132 := eq_true p132
                  replace q132 := eq_true q132
                  refine start_ (n := 17) (S := fun w' => w'.cell? ⟨gb101, 0, none⟩ = some (.slice A0_0 l0_0.length c0_0) ∧ w'.cell? ⟨gb101, 1, none⟩ = some (.slice A0_1 l0_1.length c0_1) ∧ w'.cell? ⟨gb101, 2, none⟩ = some (.slice A0_2 l0_2.length c0_2) ∧ w'.cell? ⟨gb102, 0, none⟩ = some (.slice A1_0 l1_0.length c1_0) ∧ w'.cell? ⟨gb102, 1, none⟩ = some (.int .i64 a1_1) ∧ w'.cell? ⟨gb102, 2, none⟩ = some (.int .i64 a1_2) ∧ w'.cell? ⟨gb103, 0, none⟩ = some (.slice A2_0 l2_0.length c2_0) ∧ w'.cell? ⟨gb103, 1, none⟩ = some (.int .i64 a2_1) ∧ w'.cell? ⟨gb103, 2, none⟩ = some (.int .i64 a2_2) ∧ w'.cell? (ad132.add (x16_2).toNat) = some (.int .i64 (rd t108 x16_2))) (ds := []) #[false, false, false, false, false, false, false, false, false, false, false, false, false, false, false, false, false] (by kernel_rfl) rfl rfl ⟨(blk_cell BK101.out 0).trans rfl, (blk_cell BK101.out 1).trans rfl, (blk_cell BK101.out 2).trans rfl, (blk_cell BK102.out 0).trans rfl, (blk_cell BK102.out 1).trans rfl, (blk_cell BK102.out 2).trans rfl, (blk_cell BK103.out 0).trans rfl, (blk_cell BK103.out 1).trans rfl, (blk_cell BK103.out 2).trans rfl, hx132_0⟩ (fun hHeld => ?_); refine with_tabW dunnagelaw15_VictimLeast.tab19 dunnagelaw15_VictimLeast.bits19 (fun HT_ HW_ => ?_)
                  generalize w77.drew = w78 at HO_14 HO130 BK101 BK102 BK103 HR120 HR127 HB hx132_0 hHeld ⊢
                  refine pure_ (i := 3) (N := some 92) (v := ?_) (a' := ?_) #[false, false, false, true, false, false, false, false, false, false, false, false, false, false, false, false, false] rfl rfl (any_of HT_.out (by kernel_rfl)) (fun _ _ _ h => h) (Or.inl ⟨by rfl, ?_⟩) ?_ ?_
                  rotate_left
                  ·intro w'
                   go_simp
                   with_reducible rfl
                  rotate_left
                  ·simp only [Act.put, List.setIfInBounds_toArray, List.set_cons_zero, List.set_cons_succ, i64_w, i32_w]
                   rfl
                  refine pure_ (i := 4) (N := some 93) (v := ?_) (a' := ?_) #[false, false, false, true, true, false, false, false, false, false, false, false, false, false, false, false, false] rfl rfl (any_of HT_.out (by kernel_rfl)) (fun _ _ _ h => h) (Or.inl ⟨by rfl, ?_⟩) ?_ ?_
                  rotate_left
                  ·intro w'
                   go_simp
                   with_reducible rfl
                  rotate_left
                  ·simp only [Act.put, List.setIfInBounds_toArray, List.set_cons_zero, List.set_cons_succ, i64_w, i32_w]
                   rfl
                  refine pure_ (i := 5) (N := some 94) (v := ?_) (a' := ?_) #[false, false, false, true, true, true, false, false, false, false, false, false, false, false, false, false, false] rfl rfl (any_of HT_.out (by kernel_rfl)) (fun _ _ _ h => h) (Or.inl ⟨by rfl, ?_⟩) ?_ ?_
                  rotate_left
                  ·intro w'
                   go_simp
                   with_reducible rfl
                  rotate_left
                  ·simp only [Act.put, List.setIfInBounds_toArray, List.set_cons_zero, List.set_cons_succ, i64_w, i32_w]
                   rfl
                  refine take_ (i := 0) (N := some 89) (v := ?_) (a' := ?_) #[true, false, false, true, true, true, false, false, false, false, false, false, false, false, false, false, false] rfl rfl (take_ofW HT_.out HW_.out (by kernel_rfl)) (fun _ _ _ h => h) (Or.inl ⟨by rfl, ?_⟩) hHeld ?_ ?_
                  rotate_left
                  ·rintro w' ⟨s0, s1, s2, s3, s4, s5, s6, s7, s8, s9⟩
                   go_simp
                   with_reducible rfl
                  rotate_left
                  ·simp only [Act.put, List.setIfInBounds_toArray, List.set_cons_zero, List.set_cons_succ, i64_w, i32_w]
                   rfl
                  refine take_ (i := 1) (N := some 90) (v := ?_) (a' := ?_) #[true, true, false, true, true, true, false, false, false, false, false, false, false, false, false, false, false] rfl rfl (take_ofW HT_.out HW_.out (by kernel_rfl)) (fun _ _ _ h => h) (Or.inl ⟨by rfl, ?_⟩) hHeld ?_ ?_
                  rotate_left
                  ·rintro w' ⟨s0, s1, s2, s3, s4, s5, s6, s7, s8, s9⟩
                   go_simp
                   with_reducible rfl
                  rotate_left
                  ·simp only [Act.put, List.setIfInBounds_toArray, List.set_cons_zero, List.set_cons_succ, i64_w, i32_w]
                   rfl
                  refine take_ (i := 2) (N := some 91) (v := ?_) (a' := ?_) #[true, true, true, true, true, true, false, false, false, false, false, false, false, false, false, false, false] rfl rfl (take_ofW HT_.out HW_.out (by kernel_rfl)) (fun _ _ _ h => h) (Or.inl ⟨by rfl, ?_⟩) hHeld ?_ ?_
                  rotate_left
                  ·rintro w' ⟨s0, s1, s2, s3, s4, s5, s6, s7, s8, s9⟩
                   go_simp
                   with_reducible rfl
                  rotate_left
                  ·simp only [Act.put, List.setIfInBounds_toArray, List.set_cons_zero, List.set_cons_succ, i64_w, i32_w]
                   rfl
                  refine one_ (i := 6) (N := some 95) #[true, true, true, true, true, true, true, false, false, false, false, false, false, false, false, false, false] rfl rfl (one_of HT_.out (by kernel_rfl)) (by decide) (fun K hK => ?_)
                  refine goes_ Try.func62 (by kernel_rfl) rfl #[.agg #[.slice A0_0 l0_0.length c0_0, .slice A0_1 l0_1.length c0_1, .slice A0_2 l0_2.length c0_2], .agg #[.slice A1_0 l1_0.length c1_0, .int .i64 a1_1, .int .i64 a1_2], .agg #[.slice A2_0 l2_0.length c2_0, .int .i64 a2_1, .int .i64 a2_2], .int .i64 a3, .int .i64 a4, .slice Ao79 y128.length co79] (by rfl) rfl rfl F10_ ?_
                  with_reducible refine (victim_Makes.calls k2 _ _ l0_0 _ _ l0_1 _ _ l0_2 _ _ l1_0 a1_1 a1_2 _ _ l2_0 a2_1 a2_2 a3 a4 _ _ y128 false _ ?side1 ?side2 ?side3 ?side4 ?side5 ?side6 ?side7 ?side8 ?side9 ?side10 ?side11 ?side12 A57.out).mono ?_
                  (case side1 => exact F11_)
                  (case side2 => exact HC0_0.out)
                  (case side3 => exact F12_)
                  (case side4 => exact HC0_1.out)
                  (case side5 => exact F13_)
                  (case side6 => exact HC0_2.out)
                  (case side7 => exact F14_)
                  (case side8 => exact HC1_0.out)
                  (case side9 => exact F9_)
                  (case side10 => exact HC2_0.out)
                  (case side11 => exact F22_)
                  (case side12 => exact (Kd.R_reads' HO130.out).2.1)
                  rintro e w80 ⟨rfl, hb⟩
                  have HS9_ := (hb.cell (World.block_lt_of_cell? _ _ (hHeld.2.2.2.2.2.2.2.2.2))).trans (hHeld.2.2.2.2.2.2.2.2.2)
                  refine ⟨_, rfl, ?_⟩
                  have n0_ := Aside0.mk (Kd.R_below F2_ hb)
                  have n1_ := Aside0.mk (Kd.R_below F16_ hb)
                  have n2_ := Aside0.mk (blk_below (g := gb101) (o := .cells #[.slice A0_0 l0_0.length c0_0, .slice A0_1 l0_1.length c0_1, .slice A0_2 l0_2.length c0_2] 96 (0, 0)) F3_ hb)
                  have n3_ := Aside0.mk (blk_below (g := gb102) (o := .cells #[.slice A1_0 l1_0.length c1_0, .int .i64 a1_1, .int .i64 a1_2] 99 (0, 0)) F4_ hb)
                  have n4_ := Aside0.mk (blk_below (g := gb103) (o := .cells #[.slice A2_0 l2_0.length c2_0, .int .i64 a2_1, .int .i64 a2_2] 26 (0, 0)) F5_ hb)
                  have n5_ := Aside0.mk (Kd.C_below F7_ hb)
                  have n6_ := Aside0.mk (Kd.C_below F8_ hb)
                  have n7_ := Aside0.mk (below_step F1_ hb)
                  clear HO_14
                  clear HO130
                  clear BK101
                  clear BK102
                  clear BK103
                  clear HR120
                  clear HR127
                  clear HB
                  have HO_14 := n0_
                  have HO130 := n1_
                  have BK101 := n2_
                  have BK102 := n3_
                  have BK103 := n4_
                  have HR120 := n5_
                  have HR127 := n6_
                  have HB := n7_
                  clear n0_ n1_ n2_ n3_ n4_ n5_ n6_ n7_
                  (try clear hb)
                  (try clear hb2)
                  (try clear hk)
                  (try clear hi)
                  refine hK.out _ _ ⟨(blk_cell BK101.out 0).trans rfl, (blk_cell BK101.out 1).trans rfl, (blk_cell BK101.out 2).trans rfl, (blk_cell BK102.out 0).trans rfl, (blk_cell BK102.out 1).trans rfl, (blk_cell BK102.out 2).trans rfl, (blk_cell BK103.out 0).trans rfl, (blk_cell BK103.out 1).trans rfl, (blk_cell BK103.out 2).trans rfl, HS9_⟩ (fun hHeld => ?_)
                  clear hK K
                  refine norm_ (a' := ?_) ?_ ?_
                  rotate_left
                  ·show Act.put _ (some 95) _ = _
                   simp only [Act.put, List.setIfInBounds_toArray, List.set_cons_zero, List.set_cons_succ, i64_w, i32_w]
                   rfl
                  refine pure_ (i := 7) (N := some 96) (v := ?_) (a' := ?_) #[true, true, true, true, true, true, true, true, false, false, false, false, false, false, false, false, false] rfl rfl (any_of HT_.out (by kernel_rfl)) (fun _ _ _ h => h) (Or.inl ⟨by rfl, ?_⟩) ?_ ?_
                  rotate_left
                  ·intro w'
                   go_simp
                   with_reducible rfl
                  rotate_left
                  ·simp only [Act.put, List.setIfInBounds_toArray, List.set_cons_zero, List.set_cons_succ, i64_w, i32_w]
                   rfl
                  refine pure_ (i := 9) (N := some 98) (v := ?_) (a' := ?_) #[true, true, true, true, true, true, true, true, false, true, false, false, false, false, false, false, false] rfl rfl (any_of HT_.out (by kernel_rfl)) (fun _ _ _ h => h) (Or.inl ⟨by rfl, ?_⟩) ?_ ?_
                  rotate_left
                  ·intro w'
                   go_simp
                   with_reducible rfl
                  rotate_left
                  ·simp only [Act.put, List.setIfInBounds_toArray, List.set_cons_zero, List.set_cons_succ, i64_w, i32_w]
                   rfl
                  refine pure_ (i := 10) (N := some 99) (v := ?_) (a' := ?_) #[true, true, true, true, true, true, true, true, false, true, true, false, false, false, false, false, false] rfl rfl (any_of HT_.out (by kernel_rfl)) (fun _ _ _ h => h) (Or.inl ⟨by rfl, ?_⟩) ?_ ?_
                  rotate_left
                  ·intro w'
                   go_simp
                   with_reducible rfl
                  rotate_left
                  ·simp only [Act.put, List.setIfInBounds_toArray, List.set_cons_zero, List.set_cons_succ, i64_w, i32_w]
                   rfl
                  refine pure_ (i := 11) (N := some 100) (v := ?_) (a' := ?_) #[true, true, true, true, true, true, true, true, false, true, true, true, false, false, false, false, false] rfl rfl (any_of HT_.out (by kernel_rfl)) (fun _ _ _ h => h) (Or.inl ⟨by rfl, ?_⟩) ?_ ?_
                  rotate_left
                  ·intro w'
                   go_simp
                   with_reducible rfl
                  rotate_left
                  ·simp only [Act.put, List.setIfInBounds_toArray, List.set_cons_zero, List.set_cons_succ, i64_w, i32_w]
                   rfl
                  refine pure_ (i := 12) (N := some 101) (v := ?_) (a' := ?_) #[true, true, true, true, true, true, true, true, false, true, true, true, true, false, false, false, false] rfl rfl (any_of HT_.out (by kernel_rfl)) (fun _ _ _ h => h) (Or.inl ⟨by rfl, ?_⟩) ?_ ?_
                  rotate_left
                  ·intro w'
                   go_simp
                   with_reducible rfl
                  rotate_left
                  ·simp only [Act.put, List.setIfInBounds_toArray, List.set_cons_zero, List.set_cons_succ, i64_w, i32_w]
                   rfl
                  refine take_ (i := 8) (N := some 97) (v := ?_) (a' := ?_) #[true, true, true, true, true, true, true, true, true, true, true, true, true, false, false, false, false] rfl rfl (take_ofW HT_.out HW_.out (by kernel_rfl)) (fun _ _ _ h => h) (Or.inl ⟨by rfl, ?_⟩) hHeld ?_ ?_
                  rotate_left
                  ·rintro w' ⟨s0, s1, s2, s3, s4, s5, s6, s7, s8, s9⟩
                   go_simp
                   with_reducible rfl
                  rotate_left
                  ·simp only [Act.put, List.setIfInBounds_toArray, List.set_cons_zero, List.set_cons_succ, i64_w, i32_w]
                   rfl
                  refine take_ (i := 13) (N := some 102) (v := ?_) (a' := ?_) #[true, true, true, true, true, true, true, true, true, true, true, true, true, true, false, false, false] rfl rfl (take_ofW HT_.out HW_.out (by kernel_rfl)) (fun _ _ _ h => h) (Or.inl ⟨by rfl, ?_⟩) hHeld ?_ ?_
                  rotate_left
                  ·rintro w' ⟨s0, s1, s2, s3, s4, s5, s6, s7, s8, s9⟩
                   go_simp
                   with_reducible rfl
                  rotate_left
                  ·simp only [Act.put, List.setIfInBounds_toArray, List.set_cons_zero, List.set_cons_succ, i64_w, i32_w]
                   rfl
                  refine one_ (i := 14) (N := some 103) #[true, true, true, true, true, true, true, true, true, true, true, true, true, true, true, false, false] rfl rfl (one_of HT_.out (by kernel_rfl)) (by decide) (fun K hK => ?_)
                  refine goes_ Try.func47 (by kernel_rfl) rfl #[.agg #[.slice A2_0 l2_0.length c2_0, .int .i64 a2_1, .int .i64 a2_2], .int .i64 a3, .int .i64 (rd t108 x16_2)] (by rfl) rfl rfl F10_ ?_
                  with_reducible refine (prior_May.calls _ _ l2_0 a2_1 a2_2 a3 (rd t108 x16_2) true _ ?side1 ?side2 A69.out).mono ?_
                  (case side1 => exact F9_)
                  (case side2 => exact HC2_0.out)
                  rintro e w81 ⟨rfl, hb⟩
                  have HS9_ := (hb.cell (World.block_lt_of_cell? _ _ (hHeld.2.2.2.2.2.2.2.2.2))).trans (hHeld.2.2.2.2.2.2.2.2.2)
                  refine ⟨_, rfl, ?_⟩
                  have n0_ := Aside0.mk (Kd.R_below F2_ hb)
                  have n1_ := Aside0.mk (Kd.R_below F16_ hb)
                  have n2_ := Aside0.mk (blk_below (g := gb101) (o := .cells #[.slice A0_0 l0_0.length c0_0, .slice A0_1 l0_1.length c0_1, .slice A0_2 l0_2.length c0_2] 96 (0, 0)) F3_ hb)
                  have n3_ := Aside0.mk (blk_below (g := gb102) (o := .cells #[.slice A1_0 l1_0.length c1_0, .int .i64 a1_1, .int .i64 a1_2] 99 (0, 0)) F4_ hb)
                  have n4_ := Aside0.mk (blk_below (g := gb103) (o := .cells #[.slice A2_0 l2_0.length c2_0, .int .i64 a2_1, .int .i64 a2_2] 26 (0, 0)) F5_ hb)
                  have n5_ := Aside0.mk (Kd.C_below F7_ hb)
                  have n6_ := Aside0.mk (Kd.C_below F8_ hb)
                  have n7_ := Aside0.mk (below_step F1_ hb)
                  clear HO_14
                  clear HO130
                  clear BK101
                  clear BK102
                  clear BK103
                  clear HR120
                  clear HR127
                  clear HB
                  have HO_14 := n0_
                  have HO130 := n1_
                  have BK101 := n2_
                  have BK102 := n3_
                  have BK103 := n4_
                  have HR120 := n5_
                  have HR127 := n6_
                  have HB := n7_
                  clear n0_ n1_ n2_ n3_ n4_ n5_ n6_ n7_
                  (try clear hb)
                  (try clear hb2)
                  (try clear hk)
                  (try clear hi)
                  refine hK.out _ _ ⟨(blk_cell BK101.out 0).trans rfl, (blk_cell BK101.out 1).trans rfl, (blk_cell BK101.out 2).trans rfl, (blk_cell BK102.out 0).trans rfl, (blk_cell BK102.out 1).trans rfl, (blk_cell BK102.out 2).trans rfl, (blk_cell BK103.out 0).trans rfl, (blk_cell BK103.out 1).trans rfl, (blk_cell BK103.out 2).trans rfl, HS9_⟩ (fun hHeld => ?_)
                  clear hK K
                  refine norm_ (a' := ?_) ?_ ?_
                  rotate_left
                  ·show Act.put _ (some 103) _ = _
                   simp only [Act.put, List.setIfInBounds_toArray, List.set_cons_zero, List.set_cons_succ, i64_w, i32_w]
                   rfl
                  refine pure_ (i := 15) (N := some 104) (v := ?_) (a' := ?_) #[true, true, true, true, true, true, true, true, true, true, true, true, true, true, true, true, false] rfl rfl (any_of HT_.out (by kernel_rfl)) (fun _ _ _ h => h) (Or.inl ⟨by rfl, ?_⟩) ?_ ?_
                  rotate_left
                  ·intro w'
                   go_simp
                   with_reducible rfl
                  rotate_left
                  ·simp only [Act.put, List.setIfInBounds_toArray, List.set_cons_zero, List.set_cons_succ, i64_w, i32_w]
                   rfl
                  refine pure_ (i := 16) (N := some 105) (v := ?_) (a' := ?_) #[true, true, true, true, true, true, true, true, true, true, true, true, true, true, true, true, true] rfl rfl (any_of HT_.out (by kernel_rfl)) (fun _ _ _ h => h) (Or.inl ⟨by rfl, ?_⟩) ?_ ?_
                  rotate_left
                  ·intro w'
                   go_simp
                   with_reducible rfl
                  rotate_left
                  ·simp only [Act.put, List.setIfInBounds_toArray, List.set_cons_zero, List.set_cons_succ, i64_w, i32_w]
                   rfl
                  refine done_ (done_of HT_.out (by kernel_rfl)) ?_
                  try go_wp2
                  go_roundg k2
                  case measure => have := HK1.out; have := HK2.out; omega
                  case rel => exact ⟨(ji53), (by first | rfl | (simp; done) | (simp only [← hji53] <;> (first | rfl | simp)) | (simp [*]; done)), H', ⟨by have := HK1.out; have := HK2.out; omega⟩, ⟨by (with_reducible repeat (first | apply Kd.R_alloc | apply Kd.R_drewN | apply Kd.R_drew)); exact Kd.R_mono HO_14.out (fun _ hk => trivial)⟩, ⟨F19_⟩, ⟨F20_⟩, ⟨F21_⟩, ⟨F6_⟩⟩
                 ·replace c70 := Bool.eq_false_iff.mpr c70
                  subst c70
                  have H1 : (some false) = some r := by rw [if_neg (show ¬ (false = true) by decide)] at H; exact H
                  clear H
                  have H := H1
                  clear H1
                  obtain rfl := Option.some.inj H
                  try go_wp2
                  have n0_ := Aside0.mk (Kd.R_drew HO_14.out)
                  have n1_ := Aside0.mk (blk_drew BK101.out)
                  have n2_ := Aside0.mk (blk_drew BK102.out)
                  have n3_ := Aside0.mk (blk_drew BK103.out)
                  have n4_ := Aside0.mk (below_drew1 HB.out)
                  clear HO_14
                  clear BK101
                  clear BK102
                  clear BK103
                  clear HB
                  have HO_14 := n0_
                  have BK101 := n1_
                  have BK102 := n2_
                  have BK103 := n3_
                  have HB := n4_
                  clear n0_ n1_ n2_ n3_ n4_
                  have q83 : (x16_2 : Int) ≤ ((t108.length : Int) : Int) := of_decide_eq_true F15_
                  obtain ⟨i083, hi083, _, hsz83, _⟩ := info_parts info3
                  have hroom83 : t108.length ≤ co47 := (Kd.R_reads' HO_14.out).2.1
                  have hC83 : Kd.C (Kd.int .i64) _ Ao47 t108.length t108 := (Kd.R_reads' HO_14.out).2.2
                  have hcut83 := cut_to (P := Try.prog) 71 3 .i64 Try.underlying71 hi083 Ao47 t108.length co47 x16_2 (of_decide_eq_true F15_) q83 hroom83
                  have hr83 := Kd.C_take (m := (x16_2 : Int).toNat) hC83 (by omega)
                  have hy83 : y117.length = (x16_2 : Int).toNat := (by rw [Ny117.out, List.length_take]; omega)
                  rw [← Ny117.out] at hr83
                  rw [← hy83] at hcut83
                  have HR120 := Aside0.mk hr83
                  have HC120 := Aside0.mk (show y117.length ≤ co47 from by omega)
                  clear hr83 hC83 hroom83 hi083 hsz83
                  have KY83 := Aside0.mk hy83
                  clear hy83
                  have KL83 := Aside0.mk (show (x16_2 : Int).toNat ≤ t108.length from by omega)
                  replace q83 := eq_true q83
                  have q84 : ((ji53) : Int) ≤ ((t108.length : Int) : Int) := of_decide_eq_true F15_
                  obtain ⟨i084, hi084, _, hsz84, _⟩ := info_parts info3
                  have hroom84 : t108.length ≤ co47 := (Kd.R_reads' HO_14.out).2.1
                  have hC84 : Kd.C (Kd.int .i64) _ Ao47 t108.length t108 := (Kd.R_reads' HO_14.out).2.2
                  have q084 : (0 : Int) ≤ ((ji53) : Int) := of_decide_eq_true F15_
                  have hcut84 := cut_from (P := Try.prog) 71 3 .i64 Try.underlying71 hi084 1 hsz84 Ao47 t108.length co47 (ji53) q084 q84
                  have hr84 := Kd.C_drop (m := ((ji53) : Int).toNat) (c := co47) hC84 (by omega) hroom84
                  obtain ⟨A84, hA84⟩ : ∃ A1, A1 = (if co47 = ((ji53) : Int).toNat then Ao47 else (Ao47 : Option Addr).map (·.add (((ji53) : Int).toNat * 1))) := ⟨_, rfl⟩
                  obtain ⟨c84, hc84⟩ : ∃ c1, c1 = co47 - ((ji53) : Int).toNat := ⟨_, rfl⟩
                  have hy84 : y124.length = t108.length - ((ji53) : Int).toNat := (by rw [Ny124.out, List.length_drop] <;> omega)
                  rw [show (t108).drop ((ji53) : Int).toNat = y124 from Ny124.out.symm] at hr84
                  replace hr84 : Kd.C (Kd.int .i64) _ A84 y124.length y124 := (by rw [hA84]; exact hr84)
                  rw [← hy84, ← hA84, ← hc84] at hcut84
                  have HR127 := Aside0.mk hr84
                  have HC127 := Aside0.mk (show y124.length ≤ c84 from by rw [hy84, hc84]; exact Nat.sub_le_sub_right hroom84 _)
                  clear hr84 hC84 hroom84 hi084 hsz84 hc84
                  have KY84 := Aside0.mk hy84
                  have KA84 := Aside0.mk hA84
                  clear hy84 hA84
                  have KL84 := Aside0.mk (show ((ji53) : Int).toNat ≤ t108.length from by omega)
                  replace q84 := eq_true q84
                  refine start_ (n := 11) (S := fun w' => True) (ds := []) #[false, false, false, false, false, false, false, false, false, false, false] (by kernel_rfl) rfl rfl trivial (fun hHeld => ?_); refine with_tabW dunnagelaw15_VictimLeast.tab18 dunnagelaw15_VictimLeast.bits18 (fun HT_ HW_ => ?_)
                  generalize wr.drew = w82 at HO_14 BK101 BK102 BK103 HB HR120 HR127 hHeld ⊢
                  refine pure_ (i := 1) (N := some 80) (v := ?_) (a' := ?_) #[false, true, false, false, false, false, false, false, false, false, false] rfl rfl (any_of HT_.out (by kernel_rfl)) (fun _ _ _ h => h) (Or.inl ⟨by rfl, ?_⟩) ?_ ?_
                  rotate_left
                  ·intro w'
                   go_simp
                   with_reducible rfl
                  rotate_left
                  ·simp only [Act.put, List.setIfInBounds_toArray, List.set_cons_zero, List.set_cons_succ, i64_w, i32_w]
                   rfl
                  refine pure_ (i := 2) (N := some 81) (v := ?_) (a' := ?_) #[false, true, true, false, false, false, false, false, false, false, false] rfl rfl (any_of HT_.out (by kernel_rfl)) (fun _ _ _ h => h) (Or.inl ⟨by rfl, ?_⟩) ?_ ?_
                  rotate_left
                  ·intro w'
                   go_simp
                   with_reducible rfl
                  rotate_left
                  ·simp only [Act.put, List.setIfInBounds_toArray, List.set_cons_zero, List.set_cons_succ, i64_w, i32_w]
                   rfl
                  refine pure_ (i := 3) (N := some 82) (v := ?_) (a' := ?_) #[false, true, true, true, false, false, false, false, false, false, false] rfl rfl (any_of HT_.out (by kernel_rfl)) (fun _ _ _ h => h) (Or.inl ⟨by rfl, ?_⟩) ?_ ?_
                  rotate_left
                  ·intro w'
                   go_simp
                   with_reducible rfl
                  rotate_left
                  ·simp only [Act.put, List.setIfInBounds_toArray, List.set_cons_zero, List.set_cons_succ, i64_w, i32_w]
                   rfl
                  refine pure_ (i := 5) (N := some 84) (v := ?_) (a' := ?_) #[false, true, true, true, false, true, false, false, false, false, false] rfl rfl (any_of HT_.out (by kernel_rfl)) (fun _ _ _ h => h) (Or.inl ⟨by rfl, ?_⟩) ?_ ?_
                  rotate_left
                  ·intro w'
                   go_simp
                   with_reducible rfl
                  rotate_left
                  ·simp only [Act.put, List.setIfInBounds_toArray, List.set_cons_zero, List.set_cons_succ, i64_w, i32_w]
                   rfl
                  refine pure_ (i := 6) (N := some 85) (v := ?_) (a' := ?_) #[false, true, true, true, false, true, true, false, false, false, false] rfl rfl (any_of HT_.out (by kernel_rfl)) (fun _ _ _ h => h) (Or.inl ⟨by rfl, ?_⟩) ?_ ?_
                  rotate_left
                  ·intro w'
                   go_simp
                   with_reducible rfl
                  rotate_left
                  ·simp only [Act.put, List.setIfInBounds_toArray, List.set_cons_zero, List.set_cons_succ, i64_w, i32_w]
                   rfl
                  refine pure_ (i := 7) (N := some 86) (v := ?_) (a' := ?_) #[false, true, true, true, false, true, true, true, false, false, false] rfl rfl (any_of HT_.out (by kernel_rfl)) (fun _ _ _ h => h) (Or.inl ⟨by rfl, ?_⟩) ?_ ?_
                  rotate_left
                  ·intro w'
                   go_simp
                   with_reducible rfl
                  rotate_left
                  ·simp only [Act.put, List.setIfInBounds_toArray, List.set_cons_zero, List.set_cons_succ, i64_w, i32_w]
                   rfl
                  refine pure_ (i := 8) (N := some 87) (v := ?_) (a' := ?_) #[false, true, true, true, false, true, true, true, true, false, false] rfl rfl (any_of HT_.out (by kernel_rfl)) (fun _ _ _ h => h) (Or.inl ⟨by rfl, ?_⟩) ?_ ?_
                  rotate_left
                  ·intro w'
                   go_simp
                   with_reducible rfl
                  rotate_left
                  ·simp only [Act.put, List.setIfInBounds_toArray, List.set_cons_zero, List.set_cons_succ, i64_w, i32_w]
                   rfl
                  refine one_ (i := 0) (N := some 79) #[true, true, true, true, false, true, true, true, true, false, false] rfl rfl (one_of HT_.out (by kernel_rfl)) (by decide) (fun K hK => ?_)
                  refine Kd.R_lit_step (Kd.int .i64) _ 3 ?hg (N := 79) ?hd (xs := ([] : List Int)) (inner := []) (ok := fun _ => True) (okp := fun _ => True) ?hr ?hp (fun _ hk => hk) trivial (Below.refl _ _) (Nat.le_refl _) (by simp) ?_; (case hd => rfl); (case hg => rfl); (case hr => first | (go_simp; done) | (go_simp; rfl)); (case hp => exact (Reps.none _ _))
                  intro v115 w85 ho86 hb hg_ hnew_
                  clear hg_ hnew_
                  (first | rw [← Ny114.out] at ho86 | (simp only [Int.reduceToNat] at ho86; rw [← Ny114.out] at ho86))
                  have n0_ := Aside0.mk (Kd.R_elder' F2_ (Kd.R_base ho86) hb)
                  have n1_ := Aside0.mk (Kd.R_lower (Kd.R_new' ho86 (Kd.R_lt F2_)) (below_size F1_))
                  have n2_ := Aside0.mk (blk_below (g := gb101) (o := .cells #[.slice A0_0 l0_0.length c0_0, .slice A0_1 l0_1.length c0_1, .slice A0_2 l0_2.length c0_2] 96 (0, 0)) F3_ hb)
                  have n3_ := Aside0.mk (blk_below (g := gb102) (o := .cells #[.slice A1_0 l1_0.length c1_0, .int .i64 a1_1, .int .i64 a1_2] 99 (0, 0)) F4_ hb)
                  have n4_ := Aside0.mk (blk_below (g := gb103) (o := .cells #[.slice A2_0 l2_0.length c2_0, .int .i64 a2_1, .int .i64 a2_2] 26 (0, 0)) F5_ hb)
                  have n5_ := Aside0.mk (Kd.C_below F7_ hb)
                  have n6_ := Aside0.mk (Kd.C_below F8_ hb)
                  have n7_ := Aside0.mk (below_step F1_ hb)
                  clear HO_14
                  clear BK101
                  clear BK102
                  clear BK103
                  clear HR120
                  clear HR127
                  clear HB
                  have HO_14 := n0_
                  have HO116 := n1_
                  have BK101 := n2_
                  have BK102 := n3_
                  have BK103 := n4_
                  have HR120 := n5_
                  have HR127 := n6_
                  have HB := n7_
                  clear n0_ n1_ n2_ n3_ n4_ n5_ n6_ n7_
                  clear hb ho86
                  refine hK.out _ _ trivial (fun hHeld => ?_)
                  clear hK K
                  refine norm_ (a' := ?_) ?_ ?_
                  rotate_left
                  ·show Act.put _ (some 79) _ = _
                   simp only [Act.put, List.setIfInBounds_toArray, List.set_cons_zero, List.set_cons_succ, i64_w, i32_w]
                   rfl
                  refine one_ (i := 4) (N := some 83) #[true, true, true, true, true, true, true, true, true, false, false] rfl rfl (one_of HT_.out (by kernel_rfl)) (by decide) (fun K hK => ?_)
                  refine Kd.R_append_rows_step (Kd.int .i64) (w0 := w) w.heap.size (by rfl) (.tmp 79) (.tmp 82) 71 3 (.int .i64 0) 8 rfl Try.underlying71 info3 rfl (by decide) (by omega) v115 y114 y117 _ _ _ (fun k_ => some k_ ≠ (.slice Ao47 t108.length co47 : Value).ownBlock) (fun _ => False) rfl rfl ?aO ?aR (fun _ _ h => h) (fun _ h => h.elim) ?aF ?aB ?aS ?aL ?_
                  (case aR => exact F24_)
                  (case aB => exact F1_)
                  (case aF => exact (fun k_ hk => Kd.fresh' (Kd.R_lt F2_) k_ hk))
                  (case aO => exact F26_)
                  (case aS => exact (below_size F1_))
                  (case aL => have := LMc52.out; omega)
                  intro v122 w87 ho hb hg hat
                  rw [← Ny121.out] at ho
                  have n0_ := Aside0.mk (Kd.R_after (ok := (fun _ => True)) F2_ hg hat)
                  have n1_ := Aside0.mk (blk_grown (g := gb101) (o := .cells #[.slice A0_0 l0_0.length c0_0, .slice A0_1 l0_1.length c0_1, .slice A0_2 l0_2.length c0_2] 96 (0, 0)) F3_ hg (Kd.R_ne HO116.out BK101.out (by decide)))
                  have n2_ := Aside0.mk (blk_grown (g := gb102) (o := .cells #[.slice A1_0 l1_0.length c1_0, .int .i64 a1_1, .int .i64 a1_2] 99 (0, 0)) F4_ hg (Kd.R_ne HO116.out BK102.out (by decide)))
                  have n3_ := Aside0.mk (blk_grown (g := gb103) (o := .cells #[.slice A2_0 l2_0.length c2_0, .int .i64 a2_1, .int .i64 a2_2] 26 (0, 0)) F5_ hg (Kd.R_ne HO116.out BK103.out (by decide)))
                  have n4_ := Aside0.mk (hb)
                  have n5_ := Aside0.mk ((show Kd.C (Kd.int .i64) w87 Ao47 y117.length y117 from by rw [Ny117.out]; exact Kd.C_take (m := (x16_2 : Int).toNat) ((Kd.R_reads' (Kd.R_after (ok := (fun _ => True)) F2_ hg hat)).2.2) KL83.out))
                  have n6_ := Aside0.mk ((show Kd.C (Kd.int .i64) w87 A84 y124.length y124 from by rw [Ny124.out, KA84.out]; exact Kd.C_drop (m := ((ji53) : Int).toNat) (c := co47) ((Kd.R_reads' (Kd.R_after (ok := (fun _ => True)) F2_ hg hat)).2.2) KL84.out ((Kd.R_reads' (Kd.R_after (ok := (fun _ => True)) F2_ hg hat)).2.1)))
                  have n7_ := Aside0.mk (ho)
                  clear HO_14
                  clear BK101
                  clear BK102
                  clear BK103
                  clear HB
                  clear HR120
                  clear HR127
                  clear HO116
                  have HO_14 := n0_
                  have BK101 := n1_
                  have BK102 := n2_
                  have BK103 := n3_
                  have HB := n4_
                  have HR120 := n5_
                  have HR127 := n6_
                  have HO123 := n7_
                  clear n0_ n1_ n2_ n3_ n4_ n5_ n6_ n7_
                  clear ho hb hg hat
                  refine hK.out _ _ trivial (fun hHeld => ?_)
                  clear hK K
                  refine norm_ (a' := ?_) ?_ ?_
                  rotate_left
                  ·show Act.put _ (some 83) _ = _
                   simp only [Act.put, List.setIfInBounds_toArray, List.set_cons_zero, List.set_cons_succ, i64_w, i32_w]
                   rfl
                  refine one_ (i := 9) (N := some 88) #[true, true, true, true, true, true, true, true, true, true, false] rfl rfl (one_of HT_.out (by kernel_rfl)) (by decide) (fun K hK => ?_)
                  refine Kd.R_append_rows_step (Kd.int .i64) (w0 := w) w.heap.size (by rfl) (.tmp 83) (.tmp 87) 71 3 (.int .i64 0) 8 rfl Try.underlying71 info3 rfl (by decide) (by omega) v122 y121 y124 _ _ _ (fun k_ => some k_ ≠ (.slice Ao47 t108.length co47 : Value).ownBlock) (fun _ => False) rfl rfl ?aO ?aR (fun _ _ h => h) (fun _ h => h.elim) ?aF ?aB ?aS ?aL ?_
                  (case aR => exact F25_)
                  (case aB => exact F1_)
                  (case aF => exact (fun k_ hk => Kd.fresh' (Kd.R_lt F2_) k_ hk))
                  (case aO => exact F28_)
                  (case aS => exact (below_size F1_))
                  (case aL => have := LMc56.out; omega)
                  intro v129 w88 ho hb hg hat
                  rw [← Ny128.out] at ho
                  have n0_ := Aside0.mk (Kd.R_after (ok := (fun _ => True)) F2_ hg hat)
                  have n1_ := Aside0.mk (blk_grown (g := gb101) (o := .cells #[.slice A0_0 l0_0.length c0_0, .slice A0_1 l0_1.length c0_1, .slice A0_2 l0_2.length c0_2] 96 (0, 0)) F3_ hg (Kd.R_ne HO123.out BK101.out (by decide)))
                  have n2_ := Aside0.mk (blk_grown (g := gb102) (o := .cells #[.slice A1_0 l1_0.length c1_0, .int .i64 a1_1, .int .i64 a1_2] 99 (0, 0)) F4_ hg (Kd.R_ne HO123.out BK102.out (by decide)))
                  have n3_ := Aside0.mk (blk_grown (g := gb103) (o := .cells #[.slice A2_0 l2_0.length c2_0, .int .i64 a2_1, .int .i64 a2_2] 26 (0, 0)) F5_ hg (Kd.R_ne HO123.out BK103.out (by decide)))
                  have n4_ := Aside0.mk (hb)
                  have n5_ := Aside0.mk ((show Kd.C (Kd.int .i64) w88 Ao47 y117.length y117 from by rw [Ny117.out]; exact Kd.C_take (m := (x16_2 : Int).toNat) ((Kd.R_reads' (Kd.R_after (ok := (fun _ => True)) F2_ hg hat)).2.2) KL83.out))
                  have n6_ := Aside0.mk ((show Kd.C (Kd.int .i64) w88 A84 y124.length y124 from by rw [Ny124.out, KA84.out]; exact Kd.C_drop (m := ((ji53) : Int).toNat) (c := co47) ((Kd.R_reads' (Kd.R_after (ok := (fun _ => True)) F2_ hg hat)).2.2) KL84.out ((Kd.R_reads' (Kd.R_after (ok := (fun _ => True)) F2_ hg hat)).2.1)))
                  have n7_ := Aside0.mk (ho)
                  clear HO_14
                  clear BK101
                  clear BK102
                  clear BK103
                  clear HB
                  clear HR120
                  clear HR127
                  clear HO123
                  have HO_14 := n0_
                  have BK101 := n1_
                  have BK102 := n2_
                  have BK103 := n3_
                  have HB := n4_
                  have HR120 := n5_
                  have HR127 := n6_
                  have HO130 := n7_
                  clear n0_ n1_ n2_ n3_ n4_ n5_ n6_ n7_
                  clear ho hb hg hat
                  refine hK.out _ _ trivial (fun hHeld => ?_)
                  clear hK K
                  refine norm_ (a' := ?_) ?_ ?_
                  rotate_left
                  ·show Act.put _ (some 88) _ = _
                   simp only [Act.put, List.setIfInBounds_toArray, List.set_cons_zero, List.set_cons_succ, i64_w, i32_w]
                   rfl
                  refine pure_ (i := 10) (N := some 17) (v := ?_) (a' := ?_) #[true, true, true, true, true, true, true, true, true, true, true] rfl rfl (any_of HT_.out (by kernel_rfl)) (fun _ _ _ h => h) (Or.inl ⟨by rfl, ?_⟩) ?_ ?_
                  rotate_left
                  ·intro w'
                   go_simp
                   with_reducible rfl
                  rotate_left
                  ·simp only [Act.put, List.setIfInBounds_toArray, List.set_cons_zero, List.set_cons_succ, i64_w, i32_w]
                   rfl
                  refine done_ (done_of HT_.out (by kernel_rfl)) ?_
                  try go_wp2
                  have n0_ := Aside0.mk (Kd.R_drew HO_14.out)
                  have n1_ := Aside0.mk (Kd.R_drew HO130.out)
                  have n2_ := Aside0.mk (blk_drew BK101.out)
                  have n3_ := Aside0.mk (blk_drew BK102.out)
                  have n4_ := Aside0.mk (blk_drew BK103.out)
                  have n5_ := Aside0.mk (Kd.C_drew HR120.out)
                  have n6_ := Aside0.mk (Kd.C_drew HR127.out)
                  have n7_ := Aside0.mk (below_drew1 HB.out)
                  clear HO_14
                  clear HO130
                  clear BK101
                  clear BK102
                  clear BK103
                  clear HR120
                  clear HR127
                  clear HB
                  have HO_14 := n0_
                  have HO130 := n1_
                  have BK101 := n2_
                  have BK102 := n3_
                  have BK103 := n4_
                  have HR120 := n5_
                  have HR127 := n6_
                  have HB := n7_
                  clear n0_ n1_ n2_ n3_ n4_ n5_ n6_ n7_
                  obtain ⟨Ao90, co90, eo90⟩ := Kd.R_slice HO130.out
                  (first | subst eo90 | (injection eo90 with f1_ f2_ f3_; have f4_ := f1_.symm; have f5_ := f3_.symm; clear f1_ f2_ f3_; subst f4_; subst f5_))
                  have p132 : 0 ≤ (x16_2 : Int) := of_decide_eq_true F15_
                  have q132 : x16_2 < (t108.length : Int) := of_decide_eq_true F15_
                  obtain ⟨ad132, e132, hx132_0⟩ := Kd.at_int (Kd.R_reads' HO_14.out).2.2 x16_2 p132 q132
                  cases e132
                  replace p132 := eq_true p132
                  replace q132 := eq_true q132
                  refine start_ (n := 17) (S := fun w' => w'.cell? ⟨gb101, 0, none⟩ = some (.slice A0_0 l0_0.length c0_0) ∧ w'.cell? ⟨gb101, 1, none⟩ = some (.slice A0_1 l0_1.length c0_1) ∧ w'.cell? ⟨gb101, 2, none⟩ = some (.slice A0_2 l0_2.length c0_2) ∧ w'.cell? ⟨gb102, 0, none⟩ = some (.slice A1_0 l1_0.length c1_0) ∧ w'.cell? ⟨gb102, 1, none⟩ = some (.int .i64 a1_1) ∧ w'.cell? ⟨gb102, 2, none⟩ = some (.int .i64 a1_2) ∧ w'.cell? ⟨gb103, 0, none⟩ = some (.slice A2_0 l2_0.length c2_0) ∧ w'.cell? ⟨gb103, 1, none⟩ = some (.int .i64 a2_1) ∧ w'.cell? ⟨gb103, 2, none⟩ = some (.int .i64 a2_2) ∧ w'.cell? (ad132.add (x16_2).toNat) = some (.int .i64 (rd t108 x16_2))) (ds := []) #[false, false, false, false, false, false, false, false, false, false, false, false, false, false, false, false, false] (by kernel_rfl) rfl rfl ⟨(blk_cell BK101.out 0).trans rfl, (blk_cell BK101.out 1).trans rfl, (blk_cell BK101.out 2).trans rfl, (blk_cell BK102.out 0).trans rfl, (blk_cell BK102.out 1).trans rfl, (blk_cell BK102.out 2).trans rfl, (blk_cell BK103.out 0).trans rfl, (blk_cell BK103.out 1).trans rfl, (blk_cell BK103.out 2).trans rfl, hx132_0⟩ (fun hHeld => ?_); refine with_tabW dunnagelaw15_VictimLeast.tab19 dunnagelaw15_VictimLeast.bits19 (fun HT_ HW_ => ?_)
                  generalize w88.drew = w89 at HO_14 HO130 BK101 BK102 BK103 HR120 HR127 HB hx132_0 hHeld ⊢
                  refine pure_ (i := 3) (N := some 92) (v := ?_) (a' := ?_) #[false, false, false, true, false, false, false, false, false, false, false, false, false, false, false, false, false] rfl rfl (any_of HT_.out (by kernel_rfl)) (fun _ _ _ h => h) (Or.inl ⟨by rfl, ?_⟩) ?_ ?_
                  rotate_left
                  ·intro w'
                   go_simp
                   with_reducible rfl
                  rotate_left
                  ·simp only [Act.put, List.setIfInBounds_toArray, List.set_cons_zero, List.set_cons_succ, i64_w, i32_w]
                   rfl
                  refine pure_ (i := 4) (N := some 93) (v := ?_) (a' := ?_) #[false, false, false, true, true, false, false, false, false, false, false, false, false, false, false, false, false] rfl rfl (any_of HT_.out (by kernel_rfl)) (fun _ _ _ h => h) (Or.inl ⟨by rfl, ?_⟩) ?_ ?_
                  rotate_left
                  ·intro w'
                   go_simp
                   with_reducible rfl
                  rotate_left
                  ·simp only [Act.put, List.setIfInBounds_toArray, List.set_cons_zero, List.set_cons_succ, i64_w, i32_w]
                   rfl
                  refine pure_ (i := 5) (N := some 94) (v := ?_) (a' := ?_) #[false, false, false, true, true, true, false, false, false, false, false, false, false, false, false, false, false] rfl rfl (any_of HT_.out (by kernel_rfl)) (fun _ _ _ h => h) (Or.inl ⟨by rfl, ?_⟩) ?_ ?_
                  rotate_left
                  ·intro w'
                   go_simp
                   with_reducible rfl
                  rotate_left
                  ·simp only [Act.put, List.setIfInBounds_toArray, List.set_cons_zero, List.set_cons_succ, i64_w, i32_w]
                   rfl
                  refine take_ (i := 0) (N := some 89) (v := ?_) (a' := ?_) #[true, false, false, true, true, true, false, false, false, false, false, false, false, false, false, false, false] rfl rfl (take_ofW HT_.out HW_.out (by kernel_rfl)) (fun _ _ _ h => h) (Or.inl ⟨by rfl, ?_⟩) hHeld ?_ ?_
                  rotate_left
                  ·rintro w' ⟨s0, s1, s2, s3, s4, s5, s6, s7, s8, s9⟩
                   go_simp
                   with_reducible rfl
                  rotate_left
                  ·simp only [Act.put, List.setIfInBounds_toArray, List.set_cons_zero, List.set_cons_succ, i64_w, i32_w]
                   rfl
                  refine take_ (i := 1) (N := some 90) (v := ?_) (a' := ?_) #[true, true, false, true, true, true, false, false, false, false, false, false, false, false, false, false, false] rfl rfl (take_ofW HT_.out HW_.out (by kernel_rfl)) (fun _ _ _ h => h) (Or.inl ⟨by rfl, ?_⟩) hHeld ?_ ?_
                  rotate_left
                  ·rintro w' ⟨s0, s1, s2, s3, s4, s5, s6, s7, s8, s9⟩
                   go_simp
                   with_reducible rfl
                  rotate_left
                  ·simp only [Act.put, List.setIfInBounds_toArray, List.set_cons_zero, List.set_cons_succ, i64_w, i32_w]
                   rfl
                  refine take_ (i := 2) (N := some 91) (v := ?_) (a' := ?_) #[true, true, true, true, true, true, false, false, false, false, false, false, false, false, false, false, false] rfl rfl (take_ofW HT_.out HW_.out (by kernel_rfl)) (fun _ _ _ h => h) (Or.inl ⟨by rfl, ?_⟩) hHeld ?_ ?_
                  rotate_left
                  ·rintro w' ⟨s0, s1, s2, s3, s4, s5, s6, s7, s8, s9⟩
                   go_simp
                   with_reducible rfl
                  rotate_left
                  ·simp only [Act.put, List.setIfInBounds_toArray, List.set_cons_zero, List.set_cons_succ, i64_w, i32_w]
                   rfl
                  refine one_ (i := 6) (N := some 95) #[true, true, true, true, true, true, true, false, false, false, false, false, false, false, false, false, false] rfl rfl (one_of HT_.out (by kernel_rfl)) (by decide) (fun K hK => ?_)
                  refine goes_ Try.func62 (by kernel_rfl) rfl #[.agg #[.slice A0_0 l0_0.length c0_0, .slice A0_1 l0_1.length c0_1, .slice A0_2 l0_2.length c0_2], .agg #[.slice A1_0 l1_0.length c1_0, .int .i64 a1_1, .int .i64 a1_2], .agg #[.slice A2_0 l2_0.length c2_0, .int .i64 a2_1, .int .i64 a2_2], .int .i64 a3, .int .i64 a4, .slice Ao90 y128.length co90] (by rfl) rfl rfl F10_ ?_
                  with_reducible refine (victim_Makes.calls k2 _ _ l0_0 _ _ l0_1 _ _ l0_2 _ _ l1_0 a1_1 a1_2 _ _ l2_0 a2_1 a2_2 a3 a4 _ _ y128 false _ ?side1 ?side2 ?side3 ?side4 ?side5 ?side6 ?side7 ?side8 ?side9 ?side10 ?side11 ?side12 A57.out).mono ?_
                  (case side1 => exact F11_)
                  (case side2 => exact HC0_0.out)
                  (case side3 => exact F12_)
                  (case side4 => exact HC0_1.out)
                  (case side5 => exact F13_)
                  (case side6 => exact HC0_2.out)
                  (case side7 => exact F14_)
                  (case side8 => exact HC1_0.out)
                  (case side9 => exact F9_)
                  (case side10 => exact HC2_0.out)
                  (case side11 => exact F22_)
                  (case side12 => exact (Kd.R_reads' HO130.out).2.1)
                  rintro e w91 ⟨rfl, hb⟩
                  have HS9_ := (hb.cell (World.block_lt_of_cell? _ _ (hHeld.2.2.2.2.2.2.2.2.2))).trans (hHeld.2.2.2.2.2.2.2.2.2)
                  refine ⟨_, rfl, ?_⟩
                  have n0_ := Aside0.mk (Kd.R_below F2_ hb)
                  have n1_ := Aside0.mk (Kd.R_below F16_ hb)
                  have n2_ := Aside0.mk (blk_below (g := gb101) (o := .cells #[.slice A0_0 l0_0.length c0_0, .slice A0_1 l0_1.length c0_1, .slice A0_2 l0_2.length c0_2] 96 (0, 0)) F3_ hb)
                  have n3_ := Aside0.mk (blk_below (g := gb102) (o := .cells #[.slice A1_0 l1_0.length c1_0, .int .i64 a1_1, .int .i64 a1_2] 99 (0, 0)) F4_ hb)
                  have n4_ := Aside0.mk (blk_below (g := gb103) (o := .cells #[.slice A2_0 l2_0.length c2_0, .int .i64 a2_1, .int .i64 a2_2] 26 (0, 0)) F5_ hb)
                  have n5_ := Aside0.mk (Kd.C_below F7_ hb)
                  have n6_ := Aside0.mk (Kd.C_below F8_ hb)
                  have n7_ := Aside0.mk (below_step F1_ hb)
                  clear HO_14
                  clear HO130
                  clear BK101
                  clear BK102
                  clear BK103
                  clear HR120
                  clear HR127
                  clear HB
                  have HO_14 := n0_
                  have HO130 := n1_
                  have BK101 := n2_
                  have BK102 := n3_
                  have BK103 := n4_
                  have HR120 := n5_
                  have HR127 := n6_
                  have HB := n7_
                  clear n0_ n1_ n2_ n3_ n4_ n5_ n6_ n7_
                  (try clear hb)
                  (try clear hb2)
                  (try clear hk)
                  (try clear hi)
                  refine hK.out _ _ ⟨(blk_cell BK101.out 0).trans rfl, (blk_cell BK101.out 1).trans rfl, (blk_cell BK101.out 2).trans rfl, (blk_cell BK102.out 0).trans rfl, (blk_cell BK102.out 1).trans rfl, (blk_cell BK102.out 2).trans rfl, (blk_cell BK103.out 0).trans rfl, (blk_cell BK103.out 1).trans rfl, (blk_cell BK103.out 2).trans rfl, HS9_⟩ (fun hHeld => ?_)
                  clear hK K
                  refine norm_ (a' := ?_) ?_ ?_
                  rotate_left
                  ·show Act.put _ (some 95) _ = _
                   simp only [Act.put, List.setIfInBounds_toArray, List.set_cons_zero, List.set_cons_succ, i64_w, i32_w]
                   rfl
                  refine pure_ (i := 7) (N := some 96) (v := ?_) (a' := ?_) #[true, true, true, true, true, true, true, true, false, false, false, false, false, false, false, false, false] rfl rfl (any_of HT_.out (by kernel_rfl)) (fun _ _ _ h => h) (Or.inl ⟨by rfl, ?_⟩) ?_ ?_
                  rotate_left
                  ·intro w'
                   go_simp
                   with_reducible rfl
                  rotate_left
                  ·simp only [Act.put, List.setIfInBounds_toArray, List.set_cons_zero, List.set_cons_succ, i64_w, i32_w]
                   rfl
                  refine pure_ (i := 9) (N := some 98) (v := ?_) (a' := ?_) #[true, true, true, true, true, true, true, true, false, true, false, false, false, false, false, false, false] rfl rfl (any_of HT_.out (by kernel_rfl)) (fun _ _ _ h => h) (Or.inl ⟨by rfl, ?_⟩) ?_ ?_
                  rotate_left
                  ·intro w'
                   go_simp
                   with_reducible rfl
                  rotate_left
                  ·simp only [Act.put, List.setIfInBounds_toArray, List.set_cons_zero, List.set_cons_succ, i64_w, i32_w]
                   rfl
                  refine pure_ (i := 10) (N := some 99) (v := ?_) (a' := ?_) #[true, true, true, true, true, true, true, true, false, true, true, false, false, false, false, false, false] rfl rfl (any_of HT_.out (by kernel_rfl)) (fun _ _ _ h => h) (Or.inl ⟨by rfl, ?_⟩) ?_ ?_
                  rotate_left
                  ·intro w'
                   go_simp
                   with_reducible rfl
                  rotate_left
                  ·simp only [Act.put, List.setIfInBounds_toArray, List.set_cons_zero, List.set_cons_succ, i64_w, i32_w]
                   rfl
                  refine pure_ (i := 11) (N := some 100) (v := ?_) (a' := ?_) #[true, true, true, true, true, true, true, true, false, true, true, true, false, false, false, false, false] rfl rfl (any_of HT_.out (by kernel_rfl)) (fun _ _ _ h => h) (Or.inl ⟨by rfl, ?_⟩) ?_ ?_
                  rotate_left
                  ·intro w'
                   go_simp
                   with_reducible rfl
                  rotate_left
                  ·simp only [Act.put, List.setIfInBounds_toArray, List.set_cons_zero, List.set_cons_succ, i64_w, i32_w]
                   rfl
                  refine pure_ (i := 12) (N := some 101) (v := ?_) (a' := ?_) #[true, true, true, true, true, true, true, true, false, true, true, true, true, false, false, false, false] rfl rfl (any_of HT_.out (by kernel_rfl)) (fun _ _ _ h => h) (Or.inl ⟨by rfl, ?_⟩) ?_ ?_
                  rotate_left
                  ·intro w'
                   go_simp
                   with_reducible rfl
                  rotate_left
                  ·simp only [Act.put, List.setIfInBounds_toArray, List.set_cons_zero, List.set_cons_succ, i64_w, i32_w]
                   rfl
                  refine take_ (i := 8) (N := some 97) (v := ?_) (a' := ?_) #[true, true, true, true, true, true, true, true, true, true, true, true, true, false, false, false, false] rfl rfl (take_ofW HT_.out HW_.out (by kernel_rfl)) (fun _ _ _ h => h) (Or.inl ⟨by rfl, ?_⟩) hHeld ?_ ?_
                  rotate_left
                  ·rintro w' ⟨s0, s1, s2, s3, s4, s5, s6, s7, s8, s9⟩
                   go_simp
                   with_reducible rfl
                  rotate_left
                  ·simp only [Act.put, List.setIfInBounds_toArray, List.set_cons_zero, List.set_cons_succ, i64_w, i32_w]
                   rfl
                  refine take_ (i := 13) (N := some 102) (v := ?_) (a' := ?_) #[true, true, true, true, true, true, true, true, true, true, true, true, true, true, false, false, false] rfl rfl (take_ofW HT_.out HW_.out (by kernel_rfl)) (fun _ _ _ h => h) (Or.inl ⟨by rfl, ?_⟩) hHeld ?_ ?_
                  rotate_left
                  ·rintro w' ⟨s0, s1, s2, s3, s4, s5, s6, s7, s8, s9⟩
                   go_simp
                   with_reducible rfl
                  rotate_left
                  ·simp only [Act.put, List.setIfInBounds_toArray, List.set_cons_zero, List.set_cons_succ, i64_w, i32_w]
                   rfl
                  refine one_ (i := 14) (N := some 103) #[true, true, true, true, true, true, true, true, true, true, true, true, true, true, true, false, false] rfl rfl (one_of HT_.out (by kernel_rfl)) (by decide) (fun K hK => ?_)
                  refine goes_ Try.func47 (by kernel_rfl) rfl #[.agg #[.slice A2_0 l2_0.length c2_0, .int .i64 a2_1, .int .i64 a2_2], .int .i64 a3, .int .i64 (rd t108 x16_2)] (by rfl) rfl rfl F10_ ?_
                  with_reducible refine (prior_May.calls _ _ l2_0 a2_1 a2_2 a3 (rd t108 x16_2) false _ ?side1 ?side2 A69.out).mono ?_
                  (case side1 => exact F9_)
                  (case side2 => exact HC2_0.out)
                  rintro e w92 ⟨rfl, hb⟩
                  have HS9_ := (hb.cell (World.block_lt_of_cell? _ _ (hHeld.2.2.2.2.2.2.2.2.2))).trans (hHeld.2.2.2.2.2.2.2.2.2)
                  refine ⟨_, rfl, ?_⟩
                  have n0_ := Aside0.mk (Kd.R_below F2_ hb)
                  have n1_ := Aside0.mk (Kd.R_below F16_ hb)
                  have n2_ := Aside0.mk (blk_below (g := gb101) (o := .cells #[.slice A0_0 l0_0.length c0_0, .slice A0_1 l0_1.length c0_1, .slice A0_2 l0_2.length c0_2] 96 (0, 0)) F3_ hb)
                  have n3_ := Aside0.mk (blk_below (g := gb102) (o := .cells #[.slice A1_0 l1_0.length c1_0, .int .i64 a1_1, .int .i64 a1_2] 99 (0, 0)) F4_ hb)
                  have n4_ := Aside0.mk (blk_below (g := gb103) (o := .cells #[.slice A2_0 l2_0.length c2_0, .int .i64 a2_1, .int .i64 a2_2] 26 (0, 0)) F5_ hb)
                  have n5_ := Aside0.mk (Kd.C_below F7_ hb)
                  have n6_ := Aside0.mk (Kd.C_below F8_ hb)
                  have n7_ := Aside0.mk (below_step F1_ hb)
                  clear HO_14
                  clear HO130
                  clear BK101
                  clear BK102
                  clear BK103
                  clear HR120
                  clear HR127
                  clear HB
                  have HO_14 := n0_
                  have HO130 := n1_
                  have BK101 := n2_
                  have BK102 := n3_
                  have BK103 := n4_
                  have HR120 := n5_
                  have HR127 := n6_
                  have HB := n7_
                  clear n0_ n1_ n2_ n3_ n4_ n5_ n6_ n7_
                  (try clear hb)
                  (try clear hb2)
                  (try clear hk)
                  (try clear hi)
                  refine hK.out _ _ ⟨(blk_cell BK101.out 0).trans rfl, (blk_cell BK101.out 1).trans rfl, (blk_cell BK101.out 2).trans rfl, (blk_cell BK102.out 0).trans rfl, (blk_cell BK102.out 1).trans rfl, (blk_cell BK102.out 2).trans rfl, (blk_cell BK103.out 0).trans rfl, (blk_cell BK103.out 1).trans rfl, (blk_cell BK103.out 2).trans rfl, HS9_⟩ (fun hHeld => ?_)
                  clear hK K
                  refine norm_ (a' := ?_) ?_ ?_
                  rotate_left
                  ·show Act.put _ (some 103) _ = _
                   simp only [Act.put, List.setIfInBounds_toArray, List.set_cons_zero, List.set_cons_succ, i64_w, i32_w]
                   rfl
                  refine pure_ (i := 15) (N := some 104) (v := ?_) (a' := ?_) #[true, true, true, true, true, true, true, true, true, true, true, true, true, true, true, true, false] rfl rfl (any_of HT_.out (by kernel_rfl)) (fun _ _ _ h => h) (Or.inl ⟨by rfl, ?_⟩) ?_ ?_
                  rotate_left
                  ·intro w'
                   go_simp
                   with_reducible rfl
                  rotate_left
                  ·simp only [Act.put, List.setIfInBounds_toArray, List.set_cons_zero, List.set_cons_succ, i64_w, i32_w]
                   rfl
                  refine pure_ (i := 16) (N := some 105) (v := ?_) (a' := ?_) #[true, true, true, true, true, true, true, true, true, true, true, true, true, true, true, true, true] rfl rfl (any_of HT_.out (by kernel_rfl)) (fun _ _ _ h => h) (Or.inl ⟨by rfl, ?_⟩) ?_ ?_
                  rotate_left
                  ·intro w'
                   go_simp
                   with_reducible rfl
                  rotate_left
                  ·simp only [Act.put, List.setIfInBounds_toArray, List.set_cons_zero, List.set_cons_succ, i64_w, i32_w]
                   rfl
                  refine done_ (done_of HT_.out (by kernel_rfl)) ?_
                  try go_wp2
                  go_ret
                  exact ⟨by first | rfl | (simp [errW_none, errW_some] <;> rfl) | (simp only [← hji53]; first | rfl | (simp [errW_none, errW_some] <;> rfl)) | (simp [*, errW_none, errW_some] <;> rfl), F6_⟩
               ·rw [if_neg c56] at H
                exact absurd H (by simp)
              ·rw [if_neg c55] at H
               exact absurd H (by simp)
             ·rw [if_neg c54] at H
              exact absurd H (by simp)
            ·rw [if_neg c52] at H
             exact absurd H (by simp)
           ·rw [if_neg c51] at H
            exact absurd H (by simp)
          ·rw [if_neg c50] at H
           exact absurd H (by simp)
         ·rw [if_neg c49] at H
          have c49b0 : decide (x16_2 < (t108.length : Int)) = false := decide_eq_false c49
          clear c49
          obtain rfl := Option.some.inj H
          go_wp2
          go_ret
          exact ⟨F18_, F6_⟩
      ·replace c36 := Bool.eq_false_iff.mpr c36
       subst c36
       have H1 : (some false) = some r := by rw [if_neg (show ¬ (false = true) by decide)] at H; exact H
       clear H
       have H := H1
       clear H1
       obtain rfl := Option.some.inj H
       have hnb93 := NB103_101.out
       have hnc93 := NB101_103.out
       have hnb94 := NB103_102.out
       have hnc94 := NB102_103.out
       have hcz95_0 : wr.cell? ⟨gb103, 0, none⟩ = some (.slice A2_0 l2_0.length c2_0) := (blk_cell BK103.out 0).trans rfl
       have hcz95_1 : wr.cell? ⟨gb103, 1, none⟩ = some (.int .i64 a2_1) := (blk_cell BK103.out 1).trans rfl
       have hcz95_2 : wr.cell? ⟨gb103, 2, none⟩ = some (.int .i64 a2_2) := (blk_cell BK103.out 2).trans rfl
       have hfz95_0 := blk_frozen BK103.out 0
       have hfz95_1 := blk_frozen BK103.out 1
       have hfz95_2 := blk_frozen BK103.out 2
       have hnb96 := NB101_102.out
       have hnc96 := NB102_101.out
       have hcz97_0 : wr.cell? ⟨gb101, 0, none⟩ = some (.slice A0_0 l0_0.length c0_0) := (blk_cell BK101.out 0).trans rfl
       have hcz97_1 : wr.cell? ⟨gb101, 1, none⟩ = some (.slice A0_1 l0_1.length c0_1) := (blk_cell BK101.out 1).trans rfl
       have hcz97_2 : wr.cell? ⟨gb101, 2, none⟩ = some (.slice A0_2 l0_2.length c0_2) := (blk_cell BK101.out 2).trans rfl
       have hfz97_0 := blk_frozen BK101.out 0
       have hfz97_1 := blk_frozen BK101.out 1
       have hfz97_2 := blk_frozen BK101.out 2
       have hcz98_0 : wr.cell? ⟨gb102, 0, none⟩ = some (.slice A1_0 l1_0.length c1_0) := (blk_cell BK102.out 0).trans rfl
       have hcz98_1 : wr.cell? ⟨gb102, 1, none⟩ = some (.int .i64 a1_1) := (blk_cell BK102.out 1).trans rfl
       have hcz98_2 : wr.cell? ⟨gb102, 2, none⟩ = some (.int .i64 a1_2) := (blk_cell BK102.out 2).trans rfl
       have hfz98_0 := blk_frozen BK102.out 0
       have hfz98_1 := blk_frozen BK102.out 1
       have hfz98_2 := blk_frozen BK102.out 2
       go_wp2_with (first | ((with_reducible refine gate_callee (f := 61) rfl ?_); refine goesL_ (some 54) rfl rfl Try.func61 (by kernel_rfl) rfl #[.agg #[.slice A0_0 l0_0.length c0_0, .slice A0_1 l0_1.length c0_1, .slice A0_2 l0_2.length c0_2], .agg #[.slice A1_0 l1_0.length c1_0, .int .i64 a1_1, .int .i64 a1_2], .agg #[.slice A2_0 l2_0.length c2_0, .int .i64 a2_1, .int .i64 a2_2], .int .i64 a3, .int .i64 a4] rfl F10_ ?_; (with_reducible refine (victim_Choose.calls k1 _ _ l0_0 _ _ l0_1 _ _ l0_2 _ _ l1_0 a1_1 a1_2 _ _ l2_0 a2_1 a2_2 a3 a4 t108 none _ ?side1 ?side2 ?side3 ?side4 ?side5 ?side6 ?side7 ?side8 ?side9 ?side10 A34.out).mono ?_); (case side1 => exact F11_); (case side2 => exact HC0_0.out); (case side3 => exact F12_); (case side4 => exact HC0_1.out); (case side5 => exact F13_); (case side6 => exact HC0_2.out); (case side7 => exact F14_); (case side8 => exact HC1_0.out); (case side9 => exact F9_); (case side10 => exact HC2_0.out); rintro e w99 ⟨v109, rfl, ho0, hb⟩; refine ⟨_, rfl, ?_⟩; have n0_ := Aside0.mk (Kd.R_lower ho0 (below_size F1_)); have n1_ := Aside0.mk (blk_below (g := gb101) (o := .cells #[.slice A0_0 l0_0.length c0_0, .slice A0_1 l0_1.length c0_1, .slice A0_2 l0_2.length c0_2] 96 (0, 0)) F3_ hb); have n2_ := Aside0.mk (blk_below (g := gb102) (o := .cells #[.slice A1_0 l1_0.length c1_0, .int .i64 a1_1, .int .i64 a1_2] 99 (0, 0)) F4_ hb); have n3_ := Aside0.mk (blk_below (g := gb103) (o := .cells #[.slice A2_0 l2_0.length c2_0, .int .i64 a2_1, .int .i64 a2_2] 26 (0, 0)) F5_ hb); have n4_ := Aside0.mk (below_step F1_ hb); clear BK101; clear BK102; clear BK103; clear HB; have HO110 := n0_; have BK101 := n1_; have BK102 := n2_; have BK103 := n3_; have HB := n4_; clear n0_ n1_ n2_ n3_ n4_; (try clear hb); (try clear hb2); (try clear hk); (try clear hi); (try clear ho0); (try simp only [errW_none, errW_some]); have hcz100_0 : w99.cell? ⟨gb101, 0, none⟩ = some (.slice A0_0 l0_0.length c0_0) := (blk_cell BK101.out 0).trans rfl; have hcz100_1 : w99.cell? ⟨gb101, 1, none⟩ = some (.slice A0_1 l0_1.length c0_1) := (blk_cell BK101.out 1).trans rfl; have hcz100_2 : w99.cell? ⟨gb101, 2, none⟩ = some (.slice A0_2 l0_2.length c0_2) := (blk_cell BK101.out 2).trans rfl; have hfz100_0 := blk_frozen BK101.out 0; have hfz100_1 := blk_frozen BK101.out 1; have hfz100_2 := blk_frozen BK101.out 2; have hcz101_0 : w99.cell? ⟨gb102, 0, none⟩ = some (.slice A1_0 l1_0.length c1_0) := (blk_cell BK102.out 0).trans rfl; have hcz101_1 : w99.cell? ⟨gb102, 1, none⟩ = some (.int .i64 a1_1) := (blk_cell BK102.out 1).trans rfl; have hcz101_2 : w99.cell? ⟨gb102, 2, none⟩ = some (.int .i64 a1_2) := (blk_cell BK102.out 2).trans rfl; have hfz101_0 := blk_frozen BK102.out 0; have hfz101_1 := blk_frozen BK102.out 1; have hfz101_2 := blk_frozen BK102.out 2; have hcz102_0 : w99.cell? ⟨gb103, 0, none⟩ = some (.slice A2_0 l2_0.length c2_0) := (blk_cell BK103.out 0).trans rfl; have hcz102_1 : w99.cell? ⟨gb103, 1, none⟩ = some (.int .i64 a2_1) := (blk_cell BK103.out 1).trans rfl; have hcz102_2 : w99.cell? ⟨gb103, 2, none⟩ = some (.int .i64 a2_2) := (blk_cell BK103.out 2).trans rfl; have hfz102_0 := blk_frozen BK103.out 0; have hfz102_1 := blk_frozen BK103.out 1; have hfz102_2 := blk_frozen BK103.out 2; obtain ⟨Ao103, co103, eo103⟩ := Kd.R_slice HO110.out; subst eo103) | ((with_reducible refine gate_callee (f := 62) rfl ?_); refine goesL_ (some 71) rfl rfl Try.func62 (by kernel_rfl) rfl #[.agg #[.slice A0_0 l0_0.length c0_0, .slice A0_1 l0_1.length c0_1, .slice A0_2 l0_2.length c0_2], .agg #[.slice A1_0 l1_0.length c1_0, .int .i64 a1_1, .int .i64 a1_2], .agg #[.slice A2_0 l2_0.length c2_0, .int .i64 a2_1, .int .i64 a2_2], .int .i64 a3, .int .i64 a4, .slice Ao103 t108.length co103] rfl F10_ ?_; (with_reducible refine (victim_Makes.calls k1 _ _ l0_0 _ _ l0_1 _ _ l0_2 _ _ l1_0 a1_1 a1_2 _ _ l2_0 a2_1 a2_2 a3 a4 _ _ t108 false _ ?side1 ?side2 ?side3 ?side4 ?side5 ?side6 ?side7 ?side8 ?side9 ?side10 ?side11 ?side12 A35.out).mono ?_); (case side1 => exact F11_); (case side2 => exact HC0_0.out); (case side3 => exact F12_); (case side4 => exact HC0_1.out); (case side5 => exact F13_); (case side6 => exact HC0_2.out); (case side7 => exact F14_); (case side8 => exact HC1_0.out); (case side9 => exact F9_); (case side10 => exact HC2_0.out); (case side11 => repeat (first | exact (Kd.R_reads' HO110.out).2.2 | (with_reducible refine Kd.C_alloc ?_ _) | (with_reducible refine Kd.C_drewN ?_ _) | (with_reducible refine Kd.C_drew ?_))); (case side12 => exact (Kd.R_reads' HO110.out).2.1); rintro e w104 ⟨rfl, hb⟩; refine ⟨_, rfl, ?_⟩; have n0_ := Aside0.mk (Kd.R_below (by (with_reducible repeat (first | apply Kd.R_alloc | apply Kd.R_drewN | apply Kd.R_drew)); exact HO110.out) hb); have n1_ := Aside0.mk (blk_below (g := gb101) (o := .cells #[.slice A0_0 l0_0.length c0_0, .slice A0_1 l0_1.length c0_1, .slice A0_2 l0_2.length c0_2] 96 (0, 0)) F3_ hb); have n2_ := Aside0.mk (blk_below (g := gb102) (o := .cells #[.slice A1_0 l1_0.length c1_0, .int .i64 a1_1, .int .i64 a1_2] 99 (0, 0)) F4_ hb); have n3_ := Aside0.mk (blk_below (g := gb103) (o := .cells #[.slice A2_0 l2_0.length c2_0, .int .i64 a2_1, .int .i64 a2_2] 26 (0, 0)) F5_ hb); have n4_ := Aside0.mk (below_step F1_ hb); clear HO110; clear BK101; clear BK102; clear BK103; clear HB; have HO110 := n0_; have BK101 := n1_; have BK102 := n2_; have BK103 := n3_; have HB := n4_; clear n0_ n1_ n2_ n3_ n4_; (try clear hb); (try clear hb2); (try clear hk); (try clear hi)))
       go_ret
       exact ⟨F18_, F6_⟩
     ·have H1 : (if t104 = true then (some ((t108.length : Int) == 0)) else (some false)) = some r := by rw [if_neg (show ¬ (some q112).isNone = true by simp)] at H; exact H
      clear H
      have H := H1
      clear H1
      try simp only [errW_none, errW_some]
      by_cases c105 : t104 = true
      ·subst c105
       have H1 : (some ((t108.length : Int) == 0)) = some r := by rw [if_pos rfl] at H; exact H
       clear H
       have H := H1
       clear H1
       obtain rfl := Option.some.inj H
       have hnb106 := NB103_101.out
       have hnc106 := NB101_103.out
       have hnb107 := NB103_102.out
       have hnc107 := NB102_103.out
       have hcz108_0 : wr.cell? ⟨gb103, 0, none⟩ = some (.slice A2_0 l2_0.length c2_0) := (blk_cell BK103.out 0).trans rfl
       have hcz108_1 : wr.cell? ⟨gb103, 1, none⟩ = some (.int .i64 a2_1) := (blk_cell BK103.out 1).trans rfl
       have hcz108_2 : wr.cell? ⟨gb103, 2, none⟩ = some (.int .i64 a2_2) := (blk_cell BK103.out 2).trans rfl
       have hfz108_0 := blk_frozen BK103.out 0
       have hfz108_1 := blk_frozen BK103.out 1
       have hfz108_2 := blk_frozen BK103.out 2
       have hnb109 := NB101_102.out
       have hnc109 := NB102_101.out
       have hcz110_0 : wr.cell? ⟨gb101, 0, none⟩ = some (.slice A0_0 l0_0.length c0_0) := (blk_cell BK101.out 0).trans rfl
       have hcz110_1 : wr.cell? ⟨gb101, 1, none⟩ = some (.slice A0_1 l0_1.length c0_1) := (blk_cell BK101.out 1).trans rfl
       have hcz110_2 : wr.cell? ⟨gb101, 2, none⟩ = some (.slice A0_2 l0_2.length c0_2) := (blk_cell BK101.out 2).trans rfl
       have hfz110_0 := blk_frozen BK101.out 0
       have hfz110_1 := blk_frozen BK101.out 1
       have hfz110_2 := blk_frozen BK101.out 2
       have hcz111_0 : wr.cell? ⟨gb102, 0, none⟩ = some (.slice A1_0 l1_0.length c1_0) := (blk_cell BK102.out 0).trans rfl
       have hcz111_1 : wr.cell? ⟨gb102, 1, none⟩ = some (.int .i64 a1_1) := (blk_cell BK102.out 1).trans rfl
       have hcz111_2 : wr.cell? ⟨gb102, 2, none⟩ = some (.int .i64 a1_2) := (blk_cell BK102.out 2).trans rfl
       have hfz111_0 := blk_frozen BK102.out 0
       have hfz111_1 := blk_frozen BK102.out 1
       have hfz111_2 := blk_frozen BK102.out 2
       go_wp2_with (first | ((with_reducible refine gate_callee (f := 61) rfl ?_); refine goesL_ (some 54) rfl rfl Try.func61 (by kernel_rfl) rfl #[.agg #[.slice A0_0 l0_0.length c0_0, .slice A0_1 l0_1.length c0_1, .slice A0_2 l0_2.length c0_2], .agg #[.slice A1_0 l1_0.length c1_0, .int .i64 a1_1, .int .i64 a1_2], .agg #[.slice A2_0 l2_0.length c2_0, .int .i64 a2_1, .int .i64 a2_2], .int .i64 a3, .int .i64 a4] rfl F10_ ?_; (with_reducible refine (victim_Choose.calls k1 _ _ l0_0 _ _ l0_1 _ _ l0_2 _ _ l1_0 a1_1 a1_2 _ _ l2_0 a2_1 a2_2 a3 a4 t108 (some q112) _ ?side1 ?side2 ?side3 ?side4 ?side5 ?side6 ?side7 ?side8 ?side9 ?side10 A34.out).mono ?_); (case side1 => exact F11_); (case side2 => exact HC0_0.out); (case side3 => exact F12_); (case side4 => exact HC0_1.out); (case side5 => exact F13_); (case side6 => exact HC0_2.out); (case side7 => exact F14_); (case side8 => exact HC1_0.out); (case side9 => exact F9_); (case side10 => exact HC2_0.out); rintro e w112 ⟨v109, rfl, ho0, hb⟩; refine ⟨_, rfl, ?_⟩; have n0_ := Aside0.mk (Kd.R_lower ho0 (below_size F1_)); have n1_ := Aside0.mk (blk_below (g := gb101) (o := .cells #[.slice A0_0 l0_0.length c0_0, .slice A0_1 l0_1.length c0_1, .slice A0_2 l0_2.length c0_2] 96 (0, 0)) F3_ hb); have n2_ := Aside0.mk (blk_below (g := gb102) (o := .cells #[.slice A1_0 l1_0.length c1_0, .int .i64 a1_1, .int .i64 a1_2] 99 (0, 0)) F4_ hb); have n3_ := Aside0.mk (blk_below (g := gb103) (o := .cells #[.slice A2_0 l2_0.length c2_0, .int .i64 a2_1, .int .i64 a2_2] 26 (0, 0)) F5_ hb); have n4_ := Aside0.mk (below_step F1_ hb); clear BK101; clear BK102; clear BK103; clear HB; have HO110 := n0_; have BK101 := n1_; have BK102 := n2_; have BK103 := n3_; have HB := n4_; clear n0_ n1_ n2_ n3_ n4_; (try clear hb); (try clear hb2); (try clear hk); (try clear hi); (try clear ho0); (try simp only [errW_none, errW_some]); obtain ⟨Ao113, co113, eo113⟩ := Kd.R_slice HO110.out; subst eo113))
       go_ret
       exact ⟨F18_, F6_⟩
      ·replace c105 := Bool.eq_false_iff.mpr c105
       subst c105
       have H1 : (some false) = some r := by rw [if_neg (show ¬ (false = true) by decide)] at H; exact H
       clear H
       have H := H1
       clear H1
       obtain rfl := Option.some.inj H
       have hnb114 := NB103_101.out
       have hnc114 := NB101_103.out
       have hnb115 := NB103_102.out
       have hnc115 := NB102_103.out
       have hcz116_0 : wr.cell? ⟨gb103, 0, none⟩ = some (.slice A2_0 l2_0.length c2_0) := (blk_cell BK103.out 0).trans rfl
       have hcz116_1 : wr.cell? ⟨gb103, 1, none⟩ = some (.int .i64 a2_1) := (blk_cell BK103.out 1).trans rfl
       have hcz116_2 : wr.cell? ⟨gb103, 2, none⟩ = some (.int .i64 a2_2) := (blk_cell BK103.out 2).trans rfl
       have hfz116_0 := blk_frozen BK103.out 0
       have hfz116_1 := blk_frozen BK103.out 1
       have hfz116_2 := blk_frozen BK103.out 2
       have hnb117 := NB101_102.out
       have hnc117 := NB102_101.out
       have hcz118_0 : wr.cell? ⟨gb101, 0, none⟩ = some (.slice A0_0 l0_0.length c0_0) := (blk_cell BK101.out 0).trans rfl
       have hcz118_1 : wr.cell? ⟨gb101, 1, none⟩ = some (.slice A0_1 l0_1.length c0_1) := (blk_cell BK101.out 1).trans rfl
       have hcz118_2 : wr.cell? ⟨gb101, 2, none⟩ = some (.slice A0_2 l0_2.length c0_2) := (blk_cell BK101.out 2).trans rfl
       have hfz118_0 := blk_frozen BK101.out 0
       have hfz118_1 := blk_frozen BK101.out 1
       have hfz118_2 := blk_frozen BK101.out 2
       have hcz119_0 : wr.cell? ⟨gb102, 0, none⟩ = some (.slice A1_0 l1_0.length c1_0) := (blk_cell BK102.out 0).trans rfl
       have hcz119_1 : wr.cell? ⟨gb102, 1, none⟩ = some (.int .i64 a1_1) := (blk_cell BK102.out 1).trans rfl
       have hcz119_2 : wr.cell? ⟨gb102, 2, none⟩ = some (.int .i64 a1_2) := (blk_cell BK102.out 2).trans rfl
       have hfz119_0 := blk_frozen BK102.out 0
       have hfz119_1 := blk_frozen BK102.out 1
       have hfz119_2 := blk_frozen BK102.out 2
       go_wp2_with (first | ((with_reducible refine gate_callee (f := 61) rfl ?_); refine goesL_ (some 54) rfl rfl Try.func61 (by kernel_rfl) rfl #[.agg #[.slice A0_0 l0_0.length c0_0, .slice A0_1 l0_1.length c0_1, .slice A0_2 l0_2.length c0_2], .agg #[.slice A1_0 l1_0.length c1_0, .int .i64 a1_1, .int .i64 a1_2], .agg #[.slice A2_0 l2_0.length c2_0, .int .i64 a2_1, .int .i64 a2_2], .int .i64 a3, .int .i64 a4] rfl F10_ ?_; (with_reducible refine (victim_Choose.calls k1 _ _ l0_0 _ _ l0_1 _ _ l0_2 _ _ l1_0 a1_1 a1_2 _ _ l2_0 a2_1 a2_2 a3 a4 t108 (some q112) _ ?side1 ?side2 ?side3 ?side4 ?side5 ?side6 ?side7 ?side8 ?side9 ?side10 A34.out).mono ?_); (case side1 => exact F11_); (case side2 => exact HC0_0.out); (case side3 => exact F12_); (case side4 => exact HC0_1.out); (case side5 => exact F13_); (case side6 => exact HC0_2.out); (case side7 => exact F14_); (case side8 => exact HC1_0.out); (case side9 => exact F9_); (case side10 => exact HC2_0.out); rintro e w120 ⟨v109, rfl, ho0, hb⟩; refine ⟨_, rfl, ?_⟩; have n0_ := Aside0.mk (Kd.R_lower ho0 (below_size F1_)); have n1_ := Aside0.mk (blk_below (g := gb101) (o := .cells #[.slice A0_0 l0_0.length c0_0, .slice A0_1 l0_1.length c0_1, .slice A0_2 l0_2.length c0_2] 96 (0, 0)) F3_ hb); have n2_ := Aside0.mk (blk_below (g := gb102) (o := .cells #[.slice A1_0 l1_0.length c1_0, .int .i64 a1_1, .int .i64 a1_2] 99 (0, 0)) F4_ hb); have n3_ := Aside0.mk (blk_below (g := gb103) (o := .cells #[.slice A2_0 l2_0.length c2_0, .int .i64 a2_1, .int .i64 a2_2] 26 (0, 0)) F5_ hb); have n4_ := Aside0.mk (below_step F1_ hb); clear BK101; clear BK102; clear BK103; clear HB; have HO110 := n0_; have BK101 := n1_; have BK102 := n2_; have BK103 := n3_; have HB := n4_; clear n0_ n1_ n2_ n3_ n4_; (try clear hb); (try clear hb2); (try clear hk); (try clear hi); (try clear ho0); (try simp only [errW_none, errW_some])))
       go_ret
       exact ⟨F18_, F6_⟩
    ·replace c33 := Bool.eq_false_iff.mpr c33
     subst c33
     have H1 : (some t104) = some r := by rw [if_neg (show ¬ (false = true) by decide)] at H; exact H
     clear H
     have H := H1
     clear H1
     obtain rfl := Option.some.inj H
     have hnb121 := NB103_101.out
     have hnc121 := NB101_103.out
     have hnb122 := NB103_102.out
     have hnc122 := NB102_103.out
     have hcz123_0 : wr.cell? ⟨gb103, 0, none⟩ = some (.slice A2_0 l2_0.length c2_0) := (blk_cell BK103.out 0).trans rfl
     have hcz123_1 : wr.cell? ⟨gb103, 1, none⟩ = some (.int .i64 a2_1) := (blk_cell BK103.out 1).trans rfl
     have hcz123_2 : wr.cell? ⟨gb103, 2, none⟩ = some (.int .i64 a2_2) := (blk_cell BK103.out 2).trans rfl
     have hfz123_0 := blk_frozen BK103.out 0
     have hfz123_1 := blk_frozen BK103.out 1
     have hfz123_2 := blk_frozen BK103.out 2
     go_wp2
     go_ret
     exact ⟨F18_, F6_⟩

end Go.Proofs.Ytppfkbigeknedaa.Q
