import Derived.Test.YtppfkbigeknedaaVQ0
import Derived.Test.YtppfkbigeknedaaVQclusterNode
import Derived.Test.YtppfkbigeknedaaVQpriorVictims
import Derived.Test.YtppfkbigeknedaaVQslicesCloneintint
import Derived.Test.YtppfkbigeknedaaVQslicesDeleteintint
import Derived.Test.YtppfkbigeknedaaVQstatePod
import Derived.Test.YtppfkbigeknedaaVQvictimMakes
namespace Go.Proofs.Ytppfkbigeknedaa.Q
open Go.RowKit Go.Proofs.YtppfkbigeknedaaW.PrintWords Go.Proofs.YtppfkbigeknedaaW.PrintLast Go.Proofs.YtppfkbigeknedaaW.PrintMore
attribute [local go_sem] max2_int min2_int max_two min_two max_three min_three max_four min_four   -- for this text's walks alone
set_option linter.unusedVariables false
set_option linter.unusedSimpArgs false

attribute [local go_sem] eqe_ii eqe_nn eqe_ni eqe_nni
namespace FoldQvictimChoose
theorem F1_ {p : Prop} (h : p := by repeat (first | (with_reducible first | exact HB.out | apply below_alloc | apply pw_below_drewN | apply below_drew1 | refine below_set ?_ GE101.out | refine below_set ?_ GE102.out | refine below_set ?_ GE103.out | refine below_set ?_ GE113.out | refine below_set ?_ GE125.out) | exact HB.out)) : p := h
theorem F2_ {p : Prop} (h : p := by (with_reducible repeat (first | refine blk_drewN ?_ _ | refine blk_drew ?_ | refine blk_alloc ?_ _)); refine blk_put (cs := #[.int .i64 t114, .int .i64 t115, .int .u64 t116, .int .u64 t117, .int .u64 t118, .int .u64 t119, .int .u64 t120, .int .u64 t121, .int .u64 t122, .int .u64 0]) ?_ 9 _ rfl; (with_reducible repeat (first | refine blk_drewN ?_ _ | refine blk_drew ?_ | refine blk_alloc ?_ _)); refine blk_put (cs := #[.int .i64 t114, .int .i64 t115, .int .u64 t116, .int .u64 t117, .int .u64 t118, .int .u64 t119, .int .u64 t120, .int .u64 t121, .int .u64 0, .int .u64 0]) ?_ 8 _ rfl; (with_reducible repeat (first | refine blk_drewN ?_ _ | refine blk_drew ?_ | refine blk_alloc ?_ _)); refine blk_put (cs := #[.int .i64 t114, .int .i64 t115, .int .u64 t116, .int .u64 t117, .int .u64 t118, .int .u64 t119, .int .u64 t120, .int .u64 0, .int .u64 0, .int .u64 0]) ?_ 7 _ rfl; (with_reducible repeat (first | refine blk_drewN ?_ _ | refine blk_drew ?_ | refine blk_alloc ?_ _)); refine blk_put (cs := #[.int .i64 t114, .int .i64 t115, .int .u64 t116, .int .u64 t117, .int .u64 t118, .int .u64 t119, .int .u64 0, .int .u64 0, .int .u64 0, .int .u64 0]) ?_ 6 _ rfl; (with_reducible repeat (first | refine blk_drewN ?_ _ | refine blk_drew ?_ | refine blk_alloc ?_ _)); refine blk_put (cs := #[.int .i64 t114, .int .i64 t115, .int .u64 t116, .int .u64 t117, .int .u64 t118, .int .u64 0, .int .u64 0, .int .u64 0, .int .u64 0, .int .u64 0]) ?_ 5 _ rfl; (with_reducible repeat (first | refine blk_drewN ?_ _ | refine blk_drew ?_ | refine blk_alloc ?_ _)); refine blk_put (cs := #[.int .i64 t114, .int .i64 t115, .int .u64 t116, .int .u64 t117, .int .u64 0, .int .u64 0, .int .u64 0, .int .u64 0, .int .u64 0, .int .u64 0]) ?_ 4 _ rfl; (with_reducible repeat (first | refine blk_drewN ?_ _ | refine blk_drew ?_ | refine blk_alloc ?_ _)); refine blk_put (cs := #[.int .i64 t114, .int .i64 t115, .int .u64 t116, .int .u64 0, .int .u64 0, .int .u64 0, .int .u64 0, .int .u64 0, .int .u64 0, .int .u64 0]) ?_ 3 _ rfl; (with_reducible repeat (first | refine blk_drewN ?_ _ | refine blk_drew ?_ | refine blk_alloc ?_ _)); refine blk_put (cs := #[.int .i64 t114, .int .i64 t115, .int .u64 0, .int .u64 0, .int .u64 0, .int .u64 0, .int .u64 0, .int .u64 0, .int .u64 0, .int .u64 0]) ?_ 2 _ rfl; (with_reducible repeat (first | refine blk_drewN ?_ _ | refine blk_drew ?_ | refine blk_alloc ?_ _)); refine blk_put (cs := #[.int .i64 t114, .int .i64 0, .int .u64 0, .int .u64 0, .int .u64 0, .int .u64 0, .int .u64 0, .int .u64 0, .int .u64 0, .int .u64 0]) ?_ 1 _ rfl; (with_reducible repeat (first | refine blk_drewN ?_ _ | refine blk_drew ?_ | refine blk_alloc ?_ _)); refine blk_put (cs := #[.int .i64 0, .int .i64 0, .int .u64 0, .int .u64 0, .int .u64 0, .int .u64 0, .int .u64 0, .int .u64 0, .int .u64 0, .int .u64 0]) ?_ 0 _ rfl; (with_reducible repeat (first | refine blk_drewN ?_ _ | refine blk_drew ?_ | refine blk_alloc ?_ _)); exact BK125.out) : p := h
theorem F3_ {p : Prop} (h : p := by (with_reducible repeat (first | refine blk_drewN ?_ _ | refine blk_drew ?_ | refine blk_alloc ?_ _)); exact BK101.out) : p := h
theorem F4_ {p : Prop} (h : p := by repeat (first | (with_reducible first | exact HB.out | apply below_alloc | apply pw_below_drewN | apply below_drew1 | refine below_set ?_ GE101.out | refine below_set ?_ GE102.out | refine below_set ?_ GE103.out | refine below_set ?_ GE113.out | refine below_set ?_ GE125.out) | exact HB.out)) : p := h
theorem F5_ {p : Prop} (h : p := by (with_reducible repeat (first | refine blk_drewN ?_ _ | refine blk_drew ?_ | refine blk_alloc ?_ _)); exact BK102.out) : p := h
theorem F6_ {p : Prop} (h : p := by (with_reducible repeat (first | refine blk_drewN ?_ _ | refine blk_drew ?_ | refine blk_alloc ?_ _)); exact BK103.out) : p := h
theorem F7_ {p : Prop} (h : p := by (try simp only [List.map_toArray, List.map_cons, List.map_nil]); first | done | rfl | (simp only [List.length_drop, List.length_take]; rfl)) : p := h
theorem F8_ {p : Prop} (h : p := by repeat (first | (with_reducible first | exact HB.out | apply below_alloc | apply pw_below_drewN | apply below_drew1 | refine below_set ?_ GE101.out | refine below_set ?_ GE102.out | refine below_set ?_ GE103.out | refine below_set ?_ GE113.out) | exact HB.out)) : p := h
theorem F9_ {p : Prop} (h : p := by (with_reducible repeat (first | refine blk_drewN ?_ _ | refine blk_drew ?_ | refine blk_alloc ?_ _)); exact BK113.out) : p := h
theorem F10_ {p : Prop} (h : p := by (with_reducible repeat (first | refine blk_drewN ?_ _ | refine blk_drew ?_ | refine blk_alloc ?_ _)); refine blk_far ?_ NB101_125.out _; (with_reducible repeat (first | refine blk_drewN ?_ _ | refine blk_drew ?_ | refine blk_alloc ?_ _)); refine blk_far ?_ NB101_125.out _; (with_reducible repeat (first | refine blk_drewN ?_ _ | refine blk_drew ?_ | refine blk_alloc ?_ _)); refine blk_far ?_ NB101_125.out _; (with_reducible repeat (first | refine blk_drewN ?_ _ | refine blk_drew ?_ | refine blk_alloc ?_ _)); refine blk_far ?_ NB101_125.out _; (with_reducible repeat (first | refine blk_drewN ?_ _ | refine blk_drew ?_ | refine blk_alloc ?_ _)); refine blk_far ?_ NB101_125.out _; (with_reducible repeat (first | refine blk_drewN ?_ _ | refine blk_drew ?_ | refine blk_alloc ?_ _)); refine blk_far ?_ NB101_125.out _; (with_reducible repeat (first | refine blk_drewN ?_ _ | refine blk_drew ?_ | refine blk_alloc ?_ _)); refine blk_far ?_ NB101_125.out _; (with_reducible repeat (first | refine blk_drewN ?_ _ | refine blk_drew ?_ | refine blk_alloc ?_ _)); refine blk_far ?_ NB101_125.out _; (with_reducible repeat (first | refine blk_drewN ?_ _ | refine blk_drew ?_ | refine blk_alloc ?_ _)); refine blk_far ?_ NB101_125.out _; (with_reducible repeat (first | refine blk_drewN ?_ _ | refine blk_drew ?_ | refine blk_alloc ?_ _)); refine blk_far ?_ NB101_125.out _; (with_reducible repeat (first | refine blk_drewN ?_ _ | refine blk_drew ?_ | refine blk_alloc ?_ _)); exact BK101.out) : p := h
theorem F11_ {p : Prop} (h : p := by (with_reducible repeat (first | refine blk_drewN ?_ _ | refine blk_drew ?_ | refine blk_alloc ?_ _)); refine blk_far ?_ NB102_125.out _; (with_reducible repeat (first | refine blk_drewN ?_ _ | refine blk_drew ?_ | refine blk_alloc ?_ _)); refine blk_far ?_ NB102_125.out _; (with_reducible repeat (first | refine blk_drewN ?_ _ | refine blk_drew ?_ | refine blk_alloc ?_ _)); refine blk_far ?_ NB102_125.out _; (with_reducible repeat (first | refine blk_drewN ?_ _ | refine blk_drew ?_ | refine blk_alloc ?_ _)); refine blk_far ?_ NB102_125.out _; (with_reducible repeat (first | refine blk_drewN ?_ _ | refine blk_drew ?_ | refine blk_alloc ?_ _)); refine blk_far ?_ NB102_125.out _; (with_reducible repeat (first | refine blk_drewN ?_ _ | refine blk_drew ?_ | refine blk_alloc ?_ _)); refine blk_far ?_ NB102_125.out _; (with_reducible repeat (first | refine blk_drewN ?_ _ | refine blk_drew ?_ | refine blk_alloc ?_ _)); refine blk_far ?_ NB102_125.out _; (with_reducible repeat (first | refine blk_drewN ?_ _ | refine blk_drew ?_ | refine blk_alloc ?_ _)); refine blk_far ?_ NB102_125.out _; (with_reducible repeat (first | refine blk_drewN ?_ _ | refine blk_drew ?_ | refine blk_alloc ?_ _)); refine blk_far ?_ NB102_125.out _; (with_reducible repeat (first | refine blk_drewN ?_ _ | refine blk_drew ?_ | refine blk_alloc ?_ _)); refine blk_far ?_ NB102_125.out _; (with_reducible repeat (first | refine blk_drewN ?_ _ | refine blk_drew ?_ | refine blk_alloc ?_ _)); exact BK102.out) : p := h
theorem F12_ {p : Prop} (h : p := by (with_reducible repeat (first | refine blk_drewN ?_ _ | refine blk_drew ?_ | refine blk_alloc ?_ _)); refine blk_far ?_ NB103_125.out _; (with_reducible repeat (first | refine blk_drewN ?_ _ | refine blk_drew ?_ | refine blk_alloc ?_ _)); refine blk_far ?_ NB103_125.out _; (with_reducible repeat (first | refine blk_drewN ?_ _ | refine blk_drew ?_ | refine blk_alloc ?_ _)); refine blk_far ?_ NB103_125.out _; (with_reducible repeat (first | refine blk_drewN ?_ _ | refine blk_drew ?_ | refine blk_alloc ?_ _)); refine blk_far ?_ NB103_125.out _; (with_reducible repeat (first | refine blk_drewN ?_ _ | refine blk_drew ?_ | refine blk_alloc ?_ _)); refine blk_far ?_ NB103_125.out _; (with_reducible repeat (first | refine blk_drewN ?_ _ | refine blk_drew ?_ | refine blk_alloc ?_ _)); refine blk_far ?_ NB103_125.out _; (with_reducible repeat (first | refine blk_drewN ?_ _ | refine blk_drew ?_ | refine blk_alloc ?_ _)); refine blk_far ?_ NB103_125.out _; (with_reducible repeat (first | refine blk_drewN ?_ _ | refine blk_drew ?_ | refine blk_alloc ?_ _)); refine blk_far ?_ NB103_125.out _; (with_reducible repeat (first | refine blk_drewN ?_ _ | refine blk_drew ?_ | refine blk_alloc ?_ _)); refine blk_far ?_ NB103_125.out _; (with_reducible repeat (first | refine blk_drewN ?_ _ | refine blk_drew ?_ | refine blk_alloc ?_ _)); refine blk_far ?_ NB103_125.out _; (with_reducible repeat (first | refine blk_drewN ?_ _ | refine blk_drew ?_ | refine blk_alloc ?_ _)); exact BK103.out) : p := h
theorem F13_ {p : Prop} (h : p := by (with_reducible repeat (first | refine blk_drewN ?_ _ | refine blk_drew ?_ | refine blk_alloc ?_ _)); refine blk_far ?_ NB113_125.out _; (with_reducible repeat (first | refine blk_drewN ?_ _ | refine blk_drew ?_ | refine blk_alloc ?_ _)); refine blk_far ?_ NB113_125.out _; (with_reducible repeat (first | refine blk_drewN ?_ _ | refine blk_drew ?_ | refine blk_alloc ?_ _)); refine blk_far ?_ NB113_125.out _; (with_reducible repeat (first | refine blk_drewN ?_ _ | refine blk_drew ?_ | refine blk_alloc ?_ _)); refine blk_far ?_ NB113_125.out _; (with_reducible repeat (first | refine blk_drewN ?_ _ | refine blk_drew ?_ | refine blk_alloc ?_ _)); refine blk_far ?_ NB113_125.out _; (with_reducible repeat (first | refine blk_drewN ?_ _ | refine blk_drew ?_ | refine blk_alloc ?_ _)); refine blk_far ?_ NB113_125.out _; (with_reducible repeat (first | refine blk_drewN ?_ _ | refine blk_drew ?_ | refine blk_alloc ?_ _)); refine blk_far ?_ NB113_125.out _; (with_reducible repeat (first | refine blk_drewN ?_ _ | refine blk_drew ?_ | refine blk_alloc ?_ _)); refine blk_far ?_ NB113_125.out _; (with_reducible repeat (first | refine blk_drewN ?_ _ | refine blk_drew ?_ | refine blk_alloc ?_ _)); refine blk_far ?_ NB113_125.out _; (with_reducible repeat (first | refine blk_drewN ?_ _ | refine blk_drew ?_ | refine blk_alloc ?_ _)); refine blk_far ?_ NB113_125.out _; (with_reducible repeat (first | refine blk_drewN ?_ _ | refine blk_drew ?_ | refine blk_alloc ?_ _)); exact BK113.out) : p := h
theorem F14_ {p : Prop} (h : p := by (with_reducible repeat (first | refine blk_drewN ?_ _ | refine blk_drew ?_ | refine blk_alloc ?_ _)); exact BK125.out) : p := h
theorem F15_ {p : Prop} (h : p := by repeat (first | (with_reducible exact HR132.out) | (with_reducible refine Kd.C_alloc ?_ _) | (with_reducible refine Kd.C_drewN ?_ _) | (with_reducible refine Kd.C_drew ?_) | exact HR132.out)) : p := h
theorem F16_ {p : Prop} (h : p := by repeat (first | exact (Kd.C_below HR2_0.out HB.out) | (with_reducible refine Kd.C_alloc ?_ _) | (with_reducible refine Kd.C_drewN ?_ _) | (with_reducible refine Kd.C_drew ?_))) : p := h
theorem F17_ {p : Prop} (h : p := by (with_reducible repeat (first | apply Kd.R_alloc | apply Kd.R_drewN | apply Kd.R_drew)); exact HO_18.out) : p := h
theorem F18_ {p : Prop} (h : p := by repeat (first | exact (Kd.C_below HR0_0.out HB.out) | (with_reducible refine Kd.C_alloc ?_ _) | (with_reducible refine Kd.C_drewN ?_ _) | (with_reducible refine Kd.C_drew ?_))) : p := h
theorem F19_ {p : Prop} (h : p := by repeat (first | exact (Kd.C_below HR0_1.out HB.out) | (with_reducible refine Kd.C_alloc ?_ _) | (with_reducible refine Kd.C_drewN ?_ _) | (with_reducible refine Kd.C_drew ?_))) : p := h
theorem F20_ {p : Prop} (h : p := by repeat (first | exact (Kd.C_below HR0_2.out HB.out) | (with_reducible refine Kd.C_alloc ?_ _) | (with_reducible refine Kd.C_drewN ?_ _) | (with_reducible refine Kd.C_drew ?_))) : p := h
theorem F21_ {p : Prop} (h : p := by repeat (first | exact (Kd.C_below HR1_0.out HB.out) | (with_reducible refine Kd.C_alloc ?_ _) | (with_reducible refine Kd.C_drewN ?_ _) | (with_reducible refine Kd.C_drew ?_))) : p := h
theorem F22_ {p : Prop} (h : p := by repeat (first | (with_reducible first | exact HB.out | apply below_alloc | apply pw_below_drewN | apply below_drew1 | refine below_set ?_ GE101.out | refine below_set ?_ GE102.out | refine below_set ?_ GE103.out) | exact HB.out)) : p := h
theorem F23_ {p : Prop} (h : p := by (with_reducible repeat (first | refine blk_drewN ?_ _ | refine blk_drew ?_ | refine blk_alloc ?_ _)); exact BK101.out) : p := h
theorem F24_ {p : Prop} (h : p := by (with_reducible repeat (first | refine blk_drewN ?_ _ | refine blk_drew ?_ | refine blk_alloc ?_ _)); exact BK102.out) : p := h
theorem F25_ {p : Prop} (h : p := by (with_reducible repeat (first | refine blk_drewN ?_ _ | refine blk_drew ?_ | refine blk_alloc ?_ _)); exact BK103.out) : p := h
theorem F26_ {p : Prop} (h : p := by (with_reducible repeat (first | refine blk_drewN ?_ _ | refine blk_drew ?_ | refine blk_alloc ?_ _)); exact BK113.out) : p := h
theorem F27_ {p : Prop} (h : p := by (with_reducible repeat (first | refine blk_drewN ?_ _ | refine blk_drew ?_ | refine blk_alloc ?_ _)); exact BK125.out) : p := h
theorem F28_ {p : Prop} (h : p := by first | (with_reducible assumption) | assumption) : p := h
theorem F29_ {p : Prop} (h : p := by (with_reducible repeat (first | apply Kd.R_alloc | apply Kd.R_drewN | apply Kd.R_drew)); exact HO_16.out) : p := h
theorem F30_ {p : Prop} (h : p := by repeat (first | (with_reducible first | exact HB.out | apply below_alloc | apply pw_below_drewN | apply below_drew1 | refine below_set ?_ GE101.out | refine below_set ?_ GE102.out) | exact HB.out)) : p := h
theorem F31_ {p : Prop} (h : p := by repeat (first | (with_reducible first | exact HB.out | apply below_alloc | apply pw_below_drewN | apply below_drew1 | refine below_set ?_ GE101.out) | exact HB.out)) : p := h
theorem F32_ {p : Prop} (h : p := by first | rfl | (simp; done) | (simp [*]; done)) : p := h
theorem F33_ {p : Prop} (h : p := by repeat (first | exact F15_ | (with_reducible refine Kd.C_alloc ?_ _) | (with_reducible refine Kd.C_drewN ?_ _) | (with_reducible refine Kd.C_drew ?_))) : p := h
theorem F34_ {p : Prop} (h : p := by repeat (first | (with_reducible first | exact HB.out | apply below_alloc | apply pw_below_drewN | apply below_drew1 | refine below_set ?_ GE101.out | refine below_set ?_ GE102.out | refine below_set ?_ GE103.out | refine below_set ?_ GE113.out | refine below_set ?_ GE125.out) | exact HB.out)) : p := h
theorem F35_ {p : Prop} (h : p := by repeat (first | (with_reducible first | exact HB.out | apply below_alloc | apply pw_below_drewN | apply below_drew1) | exact HB.out)) : p := h
end FoldQvictimChoose
open FoldQvictimChoose
/-! ### victim_Choose: function 61 -/
mutual
def victim_Choose.j0 : Nat → Int → Int → Bool → List (S150) → List (S260) → List (S70) → List (S185) → Int → Int → List (S70) → Int → Int → Option (List Int × Option Int)
 | 0, _, _, _, _, _, _, _, _, _, _, _, _ => none
 | k + 1, x3, x4, x38, x102000, x102001, x102002, x103000, x103001, x103002, x104000, x104001, x104002 => if x38 = true then (some (([] : List Int), some 4)) else ((prior_Victims.f x104000 x104001 x104002 x3 x4).bind fun t126 => (victim_Choose.l0 k x3 x4 t126 0 x102000 x102001 x102002 x103000 x103001 x103002 x104000 x104001 x104002))
def victim_Choose.l0 : Nat → Int → Int → List Int → Int → List (S150) → List (S260) → List (S70) → List (S185) → Int → Int → List (S70) → Int → Int → Option (List Int × Option Int)
 | 0, _, _, _, _, _, _, _, _, _, _, _, _, _ => none
 | k + 1, x3, x4, x16, x17, x102000, x102001, x102002, x103000, x103001, x103002, x104000, x104001, x104002 => if 0 ≤ x17 then (if x17 ≤ (x16.length : Int) then ((victim_Makes.f k x102000 x102001 x102002 x103000 x103001 x103002 x104000 x104001 x104002 x3 x4 (x16.take (x17 : Int).toNat)).bind fun t133 => (if t133 = true then ((slices_Clone_int_int.f (x16.take (x17 : Int).toNat)).bind fun t138 => (victim_Choose.l1 k x3 x4 t138 (wrap64 (x17 - 1)) x102000 x102001 x102002 x103000 x103001 x103002 x104000 x104001 x104002)) else (if x17 = (x16.length : Int) then (some (([] : List Int), some 9)) else (victim_Choose.l0 k x3 x4 x16 (wrap64 (x17 + 1)) x102000 x102001 x102002 x103000 x103001 x103002 x104000 x104001 x104002)))) else (none)) else (none)
def victim_Choose.l1 : Nat → Int → Int → List Int → Int → List (S150) → List (S260) → List (S70) → List (S185) → Int → Int → List (S70) → Int → Int → Option (List Int × Option Int)
 | 0, _, _, _, _, _, _, _, _, _, _, _, _, _ => none
 | k + 1, x3, x4, x18, x19, x102000, x102001, x102002, x103000, x103001, x103002, x104000, x104001, x104002 => if x19 ≥ 0 then ((slices_Clone_int_int.f x18).bind fun t141 => ((slices_Delete_int_int.f t141 x19 (wrap64 (x19 + 1))).bind fun t144 => ((victim_Makes.f k x102000 x102001 x102002 x103000 x103001 x103002 x104000 x104001 x104002 x3 x4 t144).bind fun t147 => (if t147 = true then (victim_Choose.l1 k x3 x4 t144 (wrap64 (x19 - 1)) x102000 x102001 x102002 x103000 x103001 x103002 x104000 x104001 x104002) else (victim_Choose.l1 k x3 x4 x18 (wrap64 (x19 - 1)) x102000 x102001 x102002 x103000 x103001 x103002 x104000 x104001 x104002))))) else (some (x18, none))
end
def victim_Choose.f (k : Nat) (l0_0 : List (S150)) (l0_1 : List (S260)) (l0_2 : List (S70)) (l1_0 : List (S185)) (a1_1 : Int) (a1_2 : Int) (l2_0 : List (S70)) (a2_1 : Int) (a2_2 : Int) (a3 : Int) (a4 : Int) : Option (List Int × Option Int) := (state_Pod.f l2_0 a2_1 a2_2 a3).bind fun bt104 => ((cluster_Node.f k l0_0 l0_1 l0_2 a4).bind fun bt114 => (if bt104.2.2.2.2.2.2.2.2 = true then (victim_Choose.j0 k a3 a4 (!bt114.2.2.2.2.2.2.2.2.2.2) l0_0 l0_1 l0_2 l1_0 a1_1 a1_2 l2_0 a2_1 a2_2) else (victim_Choose.j0 k a3 a4 true l0_0 l0_1 l0_2 l1_0 a1_1 a1_2 l2_0 a2_1 a2_2)))
theorem victim_Choose.mono_l : ∀ k, (∀ y0 y1 y2 y3 y4 y5 y6 y7 y8 y9 y10 y11, LeO (victim_Choose.j0 k y0 y1 y2 y3 y4 y5 y6 y7 y8 y9 y10 y11) (victim_Choose.j0 (k + 1) y0 y1 y2 y3 y4 y5 y6 y7 y8 y9 y10 y11)) ∧ (∀ y0 y1 y2 y3 y4 y5 y6 y7 y8 y9 y10 y11 y12, LeO (victim_Choose.l0 k y0 y1 y2 y3 y4 y5 y6 y7 y8 y9 y10 y11 y12) (victim_Choose.l0 (k + 1) y0 y1 y2 y3 y4 y5 y6 y7 y8 y9 y10 y11 y12)) ∧ (∀ y0 y1 y2 y3 y4 y5 y6 y7 y8 y9 y10 y11 y12, LeO (victim_Choose.l1 k y0 y1 y2 y3 y4 y5 y6 y7 y8 y9 y10 y11 y12) (victim_Choose.l1 (k + 1) y0 y1 y2 y3 y4 y5 y6 y7 y8 y9 y10 y11 y12))
 | 0 => ⟨fun _ _ _ _ _ _ _ _ _ _ _ _ r h => by simp [victim_Choose.j0] at h, fun _ _ _ _ _ _ _ _ _ _ _ _ _ r h => by simp [victim_Choose.l0] at h, fun _ _ _ _ _ _ _ _ _ _ _ _ _ r h => by simp [victim_Choose.l1] at h⟩
 | k + 1 => by
  obtain ⟨ih0, ih1, ih2⟩ := victim_Choose.mono_l k
  refine ⟨?_, ?_, ?_⟩
  ·intro y0 y1 y2 y3 y4 y5 y6 y7 y8 y9 y10 y11
   unfold victim_Choose.j0
   repeat' first
   | (with_reducible exact ih0 _ _ _ _ _ _ _ _ _ _ _ _)
   | (with_reducible exact ih1 _ _ _ _ _ _ _ _ _ _ _ _ _)
   | (with_reducible exact ih2 _ _ _ _ _ _ _ _ _ _ _ _ _)
   | (with_reducible exact cluster_Node.mono _ _ _ _ _)
   | (with_reducible exact victim_Makes.mono _ _ _ _ _ _ _ _ _ _ _ _ _)
   | (with_reducible exact LeO.refl _)
   | (with_reducible exact LeO.none _)
   | (with_reducible refine LeO.ite ?_ ?_)
   | (with_reducible refine LeO.bind ?_ (fun _ => ?_))
   | exact ih0 _ _ _ _ _ _ _ _ _ _ _ _
   | exact ih1 _ _ _ _ _ _ _ _ _ _ _ _ _
   | exact ih2 _ _ _ _ _ _ _ _ _ _ _ _ _
   | exact cluster_Node.mono _ _ _ _ _
   | exact victim_Makes.mono _ _ _ _ _ _ _ _ _ _ _ _ _
   | exact LeO.none _
   | refine LeO.ite ?_ ?_
   | refine LeO.bind ?_ (fun _ => ?_)
  ·intro y0 y1 y2 y3 y4 y5 y6 y7 y8 y9 y10 y11 y12
   unfold victim_Choose.l0
   repeat' first
   | (with_reducible exact ih0 _ _ _ _ _ _ _ _ _ _ _ _)
   | (with_reducible exact ih1 _ _ _ _ _ _ _ _ _ _ _ _ _)
   | (with_reducible exact ih2 _ _ _ _ _ _ _ _ _ _ _ _ _)
   | (with_reducible exact cluster_Node.mono _ _ _ _ _)
   | (with_reducible exact victim_Makes.mono _ _ _ _ _ _ _ _ _ _ _ _ _)
   | (with_reducible exact LeO.refl _)
   | (with_reducible exact LeO.none _)
   | (with_reducible refine LeO.ite ?_ ?_)
   | (with_reducible refine LeO.bind ?_ (fun _ => ?_))
   | exact ih0 _ _ _ _ _ _ _ _ _ _ _ _
   | exact ih1 _ _ _ _ _ _ _ _ _ _ _ _ _
   | exact ih2 _ _ _ _ _ _ _ _ _ _ _ _ _
   | exact cluster_Node.mono _ _ _ _ _
   | exact victim_Makes.mono _ _ _ _ _ _ _ _ _ _ _ _ _
   | exact LeO.none _
   | refine LeO.ite ?_ ?_
   | refine LeO.bind ?_ (fun _ => ?_)
  ·intro y0 y1 y2 y3 y4 y5 y6 y7 y8 y9 y10 y11 y12
   unfold victim_Choose.l1
   repeat' first
   | (with_reducible exact ih0 _ _ _ _ _ _ _ _ _ _ _ _)
   | (with_reducible exact ih1 _ _ _ _ _ _ _ _ _ _ _ _ _)
   | (with_reducible exact ih2 _ _ _ _ _ _ _ _ _ _ _ _ _)
   | (with_reducible exact cluster_Node.mono _ _ _ _ _)
   | (with_reducible exact victim_Makes.mono _ _ _ _ _ _ _ _ _ _ _ _ _)
   | (with_reducible exact LeO.refl _)
   | (with_reducible exact LeO.none _)
   | (with_reducible refine LeO.ite ?_ ?_)
   | (with_reducible refine LeO.bind ?_ (fun _ => ?_))
   | exact ih0 _ _ _ _ _ _ _ _ _ _ _ _
   | exact ih1 _ _ _ _ _ _ _ _ _ _ _ _ _
   | exact ih2 _ _ _ _ _ _ _ _ _ _ _ _ _
   | exact cluster_Node.mono _ _ _ _ _
   | exact victim_Makes.mono _ _ _ _ _ _ _ _ _ _ _ _ _
   | exact LeO.none _
   | refine LeO.ite ?_ ?_
   | refine LeO.bind ?_ (fun _ => ?_)
theorem victim_Choose.mono : ∀ a0 a1 a2 a3 a4 a5 a6 a7 a8 a9 a10 k, LeO (victim_Choose.f k a0 a1 a2 a3 a4 a5 a6 a7 a8 a9 a10) (victim_Choose.f (k + 1) a0 a1 a2 a3 a4 a5 a6 a7 a8 a9 a10) := by
 intro a0 a1 a2 a3 a4 a5 a6 a7 a8 a9 a10 k
 obtain ⟨ih0, ih1, ih2⟩ := victim_Choose.mono_l k
 unfold victim_Choose.f
 repeat' first
   | (with_reducible exact ih0 _ _ _ _ _ _ _ _ _ _ _ _)
   | (with_reducible exact ih1 _ _ _ _ _ _ _ _ _ _ _ _ _)
   | (with_reducible exact ih2 _ _ _ _ _ _ _ _ _ _ _ _ _)
   | (with_reducible exact cluster_Node.mono _ _ _ _ _)
   | (with_reducible exact victim_Makes.mono _ _ _ _ _ _ _ _ _ _ _ _ _)
   | (with_reducible exact LeO.refl _)
   | (with_reducible exact LeO.none _)
   | (with_reducible refine LeO.ite ?_ ?_)
   | (with_reducible refine LeO.bind ?_ (fun _ => ?_))
   | exact ih0 _ _ _ _ _ _ _ _ _ _ _ _
   | exact ih1 _ _ _ _ _ _ _ _ _ _ _ _ _
   | exact ih2 _ _ _ _ _ _ _ _ _ _ _ _ _
   | exact cluster_Node.mono _ _ _ _ _
   | exact victim_Makes.mono _ _ _ _ _ _ _ _ _ _ _ _ _
   | exact LeO.none _
   | refine LeO.ite ?_ ?_
   | refine LeO.bind ?_ (fun _ => ?_)
def victim_Choose.T7 : Bool × List (List Nat × List Nat) := (true, [([], []), ([], []), ([], []), ([], []), ([], []), ([], []), ([], []), ([5, 6], [5, 6]), ([0, 1, 2, 3, 4, 7], [0, 1, 2, 3, 4, 7]), ([8], [8])])
def victim_Choose.B7 : List Nat := [0, 0, 0, 0, 0, 0, 0, 96, 255, 511]
theorem victim_Choose.tab7 : rtab .any (opsOf Try.f61 7) = victim_Choose.T7 := by kernel_rfl
theorem victim_Choose.bits7 : waitsOk victim_Choose.T7.2 victim_Choose.B7 = true := by kernel_rfl
set_option maxHeartbeats 8000000 in
set_option maxRecDepth 100000 in
theorem victim_Choose.calls (k : Nat) (A0_0 : Option Addr) (c0_0 : Nat) (l0_0 : List (S150)) (A0_1 : Option Addr) (c0_1 : Nat) (l0_1 : List (S260)) (A0_2 : Option Addr) (c0_2 : Nat) (l0_2 : List (S70)) (A1_0 : Option Addr) (c1_0 : Nat) (l1_0 : List (S185)) (a1_1 : Int) (a1_2 : Int) (A2_0 : Option Addr) (c2_0 : Nat) (l2_0 : List (S70)) (a2_1 : Int) (a2_2 : Int) (a3 : Int) (a4 : Int) (r1 : List Int) (r2 : Option Int) (w : World) (hr0_0 : Kd.C k150 w A0_0 l0_0.length l0_0) (hc0_0 : l0_0.length ≤ c0_0) (hr0_1 : Kd.C k260 w A0_1 l0_1.length l0_1) (hc0_1 : l0_1.length ≤ c0_1) (hr0_2 : Kd.C k70 w A0_2 l0_2.length l0_2) (hc0_2 : l0_2.length ≤ c0_2) (hr1_0 : Kd.C k185 w A1_0 l1_0.length l1_0) (hc1_0 : l1_0.length ≤ c1_0) (hr2_0 : Kd.C k70 w A2_0 l2_0.length l2_0) (hc2_0 : l2_0.length ≤ c2_0) (h : victim_Choose.f k l0_0 l0_1 l0_2 l1_0 a1_1 a1_2 l2_0 a2_1 a2_2 a3 a4 = some (r1, r2)) :
  Calls Try.prog 61 #[.agg #[.slice A0_0 l0_0.length c0_0, .slice A0_1 l0_1.length c0_1, .slice A0_2 l0_2.length c0_2], .agg #[.slice A1_0 l1_0.length c1_0, .int .i64 a1_1, .int .i64 a1_2], .agg #[.slice A2_0 l2_0.length c2_0, .int .i64 a2_1, .int .i64 a2_2], .int .i64 a3, .int .i64 a4] w fun e w' => ∃ v0_ : Value, e = .returned (.tuple #[v0_, errW r2]) ∧ Kd.R (Kd.int .i64) 3 w' w.heap.size (fun _ => True) v0_ r1 ∧ Below w.heap.size w w' := by
 have hu96 := Try.underlying96
 have hu99 := Try.underlying99
 have hu26 := Try.underlying26
 have hu70 := Try.underlying70
 have hu150 := Try.underlying150
 have hu35 := Try.underlying35
 have hu66 := Try.underlying66
 have HR0_0 := Aside0.mk hr0_0
 have HC0_0 := Aside0.mk hc0_0
 clear hr0_0 hc0_0
 have HR0_1 := Aside0.mk hr0_1
 have HC0_1 := Aside0.mk hc0_1
 clear hr0_1 hc0_1
 have HR0_2 := Aside0.mk hr0_2
 have HC0_2 := Aside0.mk hc0_2
 clear hr0_2 hc0_2
 have HR1_0 := Aside0.mk hr1_0
 have HC1_0 := Aside0.mk hc1_0
 clear hr1_0 hc1_0
 have HR2_0 := Aside0.mk hr2_0
 have HC2_0 := Aside0.mk hc2_0
 clear hr2_0 hc2_0
 have HB := Aside0.mk (Below.refl w.heap.size w)
 have H : ((state_Pod.f l2_0 a2_1 a2_2 a3).bind fun bt104 => ((cluster_Node.f k l0_0 l0_1 l0_2 a4).bind fun bt114 => (if bt104.2.2.2.2.2.2.2.2 = true then (victim_Choose.j0 k a3 a4 (!bt114.2.2.2.2.2.2.2.2.2.2) l0_0 l0_1 l0_2 l1_0 a1_1 a1_2 l2_0 a2_1 a2_2) else (victim_Choose.j0 k a3 a4 true l0_0 l0_1 l0_2 l1_0 a1_1 a1_2 l2_0 a2_1 a2_2)))) = some (r1, r2) := h
 clear h
 replace H := Option.bind_eq_some_iff.mp H
 obtain ⟨⟨t104, t105, t106, t107, t108, t109, t110, t111, t112⟩, A60, H⟩ := H
 replace H : ((cluster_Node.f k l0_0 l0_1 l0_2 a4).bind fun bt114 => (if t112 = true then (victim_Choose.j0 k a3 a4 (!bt114.2.2.2.2.2.2.2.2.2.2) l0_0 l0_1 l0_2 l1_0 a1_1 a1_2 l2_0 a2_1 a2_2) else (victim_Choose.j0 k a3 a4 true l0_0 l0_1 l0_2 l1_0 a1_1 a1_2 l2_0 a2_1 a2_2))) = some (r1, r2) := H
 have A6 := Aside0.mk A60
 clear A60
 replace H := Option.bind_eq_some_iff.mp H
 obtain ⟨⟨t114, t115, t116, t117, t118, t119, t120, t121, t122, t123, t124⟩, A70, H⟩ := H
 replace H : (if t112 = true then (victim_Choose.j0 k a3 a4 (!t124) l0_0 l0_1 l0_2 l1_0 a1_1 a1_2 l2_0 a2_1 a2_2) else (victim_Choose.j0 k a3 a4 true l0_0 l0_1 l0_2 l1_0 a1_1 a1_2 l2_0 a2_1 a2_2)) = some (r1, r2) := H
 have A7 := Aside0.mk A70
 clear A70
 have HC8 := Aside0.mk H
 clear H
 go_enter Try.func61, Try.ntmps61
 go_upto_region 3 with (first | ((with_reducible refine gate_dst (N := 5) rfl ?_); refine box_event ?hg (N := 5) ?hd (cs := #[.slice A0_0 l0_0.length c0_0, .slice A0_1 l0_1.length c0_1, .slice A0_2 l0_2.length c0_2]) (t := 96) ?hr ?_; (case hd => rfl); (case hg => rfl); (case hr => first | (go_simp; done) | (go_simp; rfl)); intro gb101 hg w9 hbox hb; have n0_ := Aside0.mk (below_step F35_ hb); have n1_ := Aside0.mk (hbox); have n2_ := Aside0.mk ((by rw [hg]; exact (below_size F35_) : w.heap.size ≤ gb101)); have n3_ := Aside0.mk ((by rw [hg]; exact (below_size F35_) : w.heap.size ≤ gb101)); clear HB; have HB := n0_; have BK101 := n1_; have GW101 := n2_; have GE101 := n3_; clear n0_ n1_ n2_ n3_; clear hb hbox hg) | ((with_reducible refine gate_dst (N := 6) rfl ?_); refine box_event ?hg (N := 6) ?hd (cs := #[.slice A1_0 l1_0.length c1_0, .int .i64 a1_1, .int .i64 a1_2]) (t := 99) ?hr ?_; (case hd => rfl); (case hg => rfl); (case hr => first | (go_simp; done) | (go_simp; rfl)); intro gb102 hg w10 hbox hb; have n0_ := Aside0.mk (blk_below (g := gb101) (o := .cells #[.slice A0_0 l0_0.length c0_0, .slice A0_1 l0_1.length c0_1, .slice A0_2 l0_2.length c0_2] 96 (0, 0)) F3_ hb); have n1_ := Aside0.mk (below_step F31_ hb); have n2_ := Aside0.mk (hbox); have n3_ := Aside0.mk ((by rw [hg]; exact (below_size F31_) : w.heap.size ≤ gb102)); have n4_ := Aside0.mk ((by rw [hg]; exact (below_size F31_) : w.heap.size ≤ gb102)); have n5_ := Aside0.mk ((by rw [hg]; exact Nat.ne_of_lt (blk_lt (g := gb101) (o := .cells #[.slice A0_0 l0_0.length c0_0, .slice A0_1 l0_1.length c0_1, .slice A0_2 l0_2.length c0_2] 96 (0, 0)) F3_) : gb101 ≠ gb102)); have n6_ := Aside0.mk ((by rw [hg]; exact Nat.ne_of_gt (blk_lt (g := gb101) (o := .cells #[.slice A0_0 l0_0.length c0_0, .slice A0_1 l0_1.length c0_1, .slice A0_2 l0_2.length c0_2] 96 (0, 0)) F3_) : gb102 ≠ gb101)); clear BK101; clear HB; have BK101 := n0_; have HB := n1_; have BK102 := n2_; have GW102 := n3_; have GE102 := n4_; have NB101_102 := n5_; have NB102_101 := n6_; clear n0_ n1_ n2_ n3_ n4_ n5_ n6_; clear hb hbox hg) | ((with_reducible refine gate_dst (N := 7) rfl ?_); refine box_event ?hg (N := 7) ?hd (cs := #[.slice A2_0 l2_0.length c2_0, .int .i64 a2_1, .int .i64 a2_2]) (t := 26) ?hr ?_; (case hd => rfl); (case hg => rfl); (case hr => first | (go_simp; done) | (go_simp; rfl)); intro gb103 hg w11 hbox hb; have n0_ := Aside0.mk (blk_below (g := gb101) (o := .cells #[.slice A0_0 l0_0.length c0_0, .slice A0_1 l0_1.length c0_1, .slice A0_2 l0_2.length c0_2] 96 (0, 0)) F3_ hb); have n1_ := Aside0.mk (blk_below (g := gb102) (o := .cells #[.slice A1_0 l1_0.length c1_0, .int .i64 a1_1, .int .i64 a1_2] 99 (0, 0)) F5_ hb); have n2_ := Aside0.mk (below_step F30_ hb); have n3_ := Aside0.mk (hbox); have n4_ := Aside0.mk ((by rw [hg]; exact (below_size F30_) : w.heap.size ≤ gb103)); have n5_ := Aside0.mk ((by rw [hg]; exact (below_size F30_) : w.heap.size ≤ gb103)); have n6_ := Aside0.mk ((by rw [hg]; exact Nat.ne_of_lt (blk_lt (g := gb101) (o := .cells #[.slice A0_0 l0_0.length c0_0, .slice A0_1 l0_1.length c0_1, .slice A0_2 l0_2.length c0_2] 96 (0, 0)) F3_) : gb101 ≠ gb103)); have n7_ := Aside0.mk ((by rw [hg]; exact Nat.ne_of_gt (blk_lt (g := gb101) (o := .cells #[.slice A0_0 l0_0.length c0_0, .slice A0_1 l0_1.length c0_1, .slice A0_2 l0_2.length c0_2] 96 (0, 0)) F3_) : gb103 ≠ gb101)); have n8_ := Aside0.mk ((by rw [hg]; exact Nat.ne_of_lt (blk_lt (g := gb102) (o := .cells #[.slice A1_0 l1_0.length c1_0, .int .i64 a1_1, .int .i64 a1_2] 99 (0, 0)) F5_) : gb102 ≠ gb103)); have n9_ := Aside0.mk ((by rw [hg]; exact Nat.ne_of_gt (blk_lt (g := gb102) (o := .cells #[.slice A1_0 l1_0.length c1_0, .int .i64 a1_1, .int .i64 a1_2] 99 (0, 0)) F5_) : gb103 ≠ gb102)); clear BK101; clear BK102; clear HB; have BK101 := n0_; have BK102 := n1_; have HB := n2_; have BK103 := n3_; have GW103 := n4_; have GE103 := n5_; have NB101_103 := n6_; have NB103_101 := n7_; have NB102_103 := n8_; have NB103_102 := n9_; clear n0_ n1_ n2_ n3_ n4_ n5_ n6_ n7_ n8_ n9_; clear hb hbox hg; have hnb12 := NB103_101.out; have hnc12 := NB101_103.out; have hnb13 := NB103_102.out; have hnc13 := NB102_103.out; have hcz14_0 : w11.cell? ⟨gb103, 0, none⟩ = some (.slice A2_0 l2_0.length c2_0) := (blk_cell BK103.out 0).trans rfl; have hcz14_1 : w11.cell? ⟨gb103, 1, none⟩ = some (.int .i64 a2_1) := (blk_cell BK103.out 1).trans rfl; have hcz14_2 : w11.cell? ⟨gb103, 2, none⟩ = some (.int .i64 a2_2) := (blk_cell BK103.out 2).trans rfl; have hfz14_0 := blk_frozen BK103.out 0; have hfz14_1 := blk_frozen BK103.out 1; have hfz14_2 := blk_frozen BK103.out 2) | ((with_reducible refine gate_callee (f := 89) rfl ?_); refine goesL_ (some 24) rfl rfl Try.func89 (by kernel_rfl) rfl #[.agg #[.slice A2_0 l2_0.length c2_0, .int .i64 a2_1, .int .i64 a2_2], .int .i64 a3] rfl F7_ ?_; (with_reducible refine (state_Pod.calls _ _ l2_0 a2_1 a2_2 a3 t104 t105 t106 t107 t108 t109 t110 t111 t112 _ ?side1 ?side2 A6.out).mono ?_); (case side1 => exact F16_); (case side2 => exact HC2_0.out); rintro e w15 ⟨rfl, hb⟩; refine ⟨_, rfl, ?_⟩; have n0_ := Aside0.mk (blk_below (g := gb101) (o := .cells #[.slice A0_0 l0_0.length c0_0, .slice A0_1 l0_1.length c0_1, .slice A0_2 l0_2.length c0_2] 96 (0, 0)) F3_ hb); have n1_ := Aside0.mk (blk_below (g := gb102) (o := .cells #[.slice A1_0 l1_0.length c1_0, .int .i64 a1_1, .int .i64 a1_2] 99 (0, 0)) F5_ hb); have n2_ := Aside0.mk (blk_below (g := gb103) (o := .cells #[.slice A2_0 l2_0.length c2_0, .int .i64 a2_1, .int .i64 a2_2] 26 (0, 0)) F6_ hb); have n3_ := Aside0.mk (below_step F22_ hb); clear BK101; clear BK102; clear BK103; clear HB; have BK101 := n0_; have BK102 := n1_; have BK103 := n2_; have HB := n3_; clear n0_ n1_ n2_ n3_; (try clear hb); (try clear hb2); (try clear hk); (try clear hi)) | ((with_reducible refine gate_dst (N := 12) rfl ?_); refine box_event ?hg (N := 12) ?hd (cs := #[.int .i64 0, .int .i64 0, .int .i64 0, .int .u64 0, .int .u64 0, .int .u64 0, .int .u64 0, .int .i64 0]) (t := 70) ?hr ?_; (case hd => rfl); (case hg => rfl); (case hr => first | (go_simp; done) | (go_simp; rfl)); intro gb113 hg w16 hbox hb; have n0_ := Aside0.mk (blk_below (g := gb101) (o := .cells #[.slice A0_0 l0_0.length c0_0, .slice A0_1 l0_1.length c0_1, .slice A0_2 l0_2.length c0_2] 96 (0, 0)) F3_ hb); have n1_ := Aside0.mk (blk_below (g := gb102) (o := .cells #[.slice A1_0 l1_0.length c1_0, .int .i64 a1_1, .int .i64 a1_2] 99 (0, 0)) F5_ hb); have n2_ := Aside0.mk (blk_below (g := gb103) (o := .cells #[.slice A2_0 l2_0.length c2_0, .int .i64 a2_1, .int .i64 a2_2] 26 (0, 0)) F6_ hb); have n3_ := Aside0.mk (below_step F22_ hb); have n4_ := Aside0.mk (hbox); have n5_ := Aside0.mk ((by rw [hg]; exact (below_size F22_) : w.heap.size ≤ gb113)); have n6_ := Aside0.mk ((by rw [hg]; exact (below_size F22_) : w.heap.size ≤ gb113)); have n7_ := Aside0.mk ((by rw [hg]; exact Nat.ne_of_lt (blk_lt (g := gb101) (o := .cells #[.slice A0_0 l0_0.length c0_0, .slice A0_1 l0_1.length c0_1, .slice A0_2 l0_2.length c0_2] 96 (0, 0)) F3_) : gb101 ≠ gb113)); have n8_ := Aside0.mk ((by rw [hg]; exact Nat.ne_of_gt (blk_lt (g := gb101) (o := .cells #[.slice A0_0 l0_0.length c0_0, .slice A0_1 l0_1.length c0_1, .slice A0_2 l0_2.length c0_2] 96 (0, 0)) F3_) : gb113 ≠ gb101)); have n9_ := Aside0.mk ((by rw [hg]; exact Nat.ne_of_lt (blk_lt (g := gb102) (o := .cells #[.slice A1_0 l1_0.length c1_0, .int .i64 a1_1, .int .i64 a1_2] 99 (0, 0)) F5_) : gb102 ≠ gb113)); have n10_ := Aside0.mk ((by rw [hg]; exact Nat.ne_of_gt (blk_lt (g := gb102) (o := .cells #[.slice A1_0 l1_0.length c1_0, .int .i64 a1_1, .int .i64 a1_2] 99 (0, 0)) F5_) : gb113 ≠ gb102)); have n11_ := Aside0.mk ((by rw [hg]; exact Nat.ne_of_lt (blk_lt (g := gb103) (o := .cells #[.slice A2_0 l2_0.length c2_0, .int .i64 a2_1, .int .i64 a2_2] 26 (0, 0)) F6_) : gb103 ≠ gb113)); have n12_ := Aside0.mk ((by rw [hg]; exact Nat.ne_of_gt (blk_lt (g := gb103) (o := .cells #[.slice A2_0 l2_0.length c2_0, .int .i64 a2_1, .int .i64 a2_2] 26 (0, 0)) F6_) : gb113 ≠ gb103)); clear BK101; clear BK102; clear BK103; clear HB; have BK101 := n0_; have BK102 := n1_; have BK103 := n2_; have HB := n3_; have BK113 := n4_; have GW113 := n5_; have GE113 := n6_; have NB101_113 := n7_; have NB113_101 := n8_; have NB102_113 := n9_; have NB113_102 := n10_; have NB103_113 := n11_; have NB113_103 := n12_; clear n0_ n1_ n2_ n3_ n4_ n5_ n6_ n7_ n8_ n9_ n10_ n11_ n12_; clear hb hbox hg; have hnb17 := NB113_101.out; have hnc17 := NB101_113.out; have hnb18 := NB113_102.out; have hnc18 := NB102_113.out; have hnb19 := NB113_103.out; have hnc19 := NB103_113.out; have hcz20_0 : w16.cell? ⟨gb113, 0, none⟩ = some (.int .i64 0) := (blk_cell BK113.out 0).trans rfl; have hcz20_1 : w16.cell? ⟨gb113, 1, none⟩ = some (.int .i64 0) := (blk_cell BK113.out 1).trans rfl; have hcz20_2 : w16.cell? ⟨gb113, 2, none⟩ = some (.int .i64 0) := (blk_cell BK113.out 2).trans rfl; have hcz20_3 : w16.cell? ⟨gb113, 3, none⟩ = some (.int .u64 0) := (blk_cell BK113.out 3).trans rfl; have hcz20_4 : w16.cell? ⟨gb113, 4, none⟩ = some (.int .u64 0) := (blk_cell BK113.out 4).trans rfl; have hcz20_5 : w16.cell? ⟨gb113, 5, none⟩ = some (.int .u64 0) := (blk_cell BK113.out 5).trans rfl; have hcz20_6 : w16.cell? ⟨gb113, 6, none⟩ = some (.int .u64 0) := (blk_cell BK113.out 6).trans rfl; have hcz20_7 : w16.cell? ⟨gb113, 7, none⟩ = some (.int .i64 0) := (blk_cell BK113.out 7).trans rfl; have hfz20_0 := blk_frozen BK113.out 0; have hfz20_1 := blk_frozen BK113.out 1; have hfz20_2 := blk_frozen BK113.out 2; have hfz20_3 := blk_frozen BK113.out 3; have hfz20_4 := blk_frozen BK113.out 4; have hfz20_5 := blk_frozen BK113.out 5; have hfz20_6 := blk_frozen BK113.out 6; have hfz20_7 := blk_frozen BK113.out 7; have hnb21 := NB101_102.out; have hnc21 := NB102_101.out; have hcz22_0 : w16.cell? ⟨gb101, 0, none⟩ = some (.slice A0_0 l0_0.length c0_0) := (blk_cell BK101.out 0).trans rfl; have hcz22_1 : w16.cell? ⟨gb101, 1, none⟩ = some (.slice A0_1 l0_1.length c0_1) := (blk_cell BK101.out 1).trans rfl; have hcz22_2 : w16.cell? ⟨gb101, 2, none⟩ = some (.slice A0_2 l0_2.length c0_2) := (blk_cell BK101.out 2).trans rfl; have hfz22_0 := blk_frozen BK101.out 0; have hfz22_1 := blk_frozen BK101.out 1; have hfz22_2 := blk_frozen BK101.out 2) | ((with_reducible refine gate_callee (f := 105) rfl ?_); refine goesL_ (some 30) rfl rfl Try.func105 (by kernel_rfl) rfl #[.agg #[.slice A0_0 l0_0.length c0_0, .slice A0_1 l0_1.length c0_1, .slice A0_2 l0_2.length c0_2], .int .i64 a4] rfl F7_ ?_; (with_reducible refine (cluster_Node.calls k _ _ l0_0 _ _ l0_1 _ _ l0_2 a4 t114 t115 t116 t117 t118 t119 t120 t121 t122 t123 t124 _ ?side1 ?side2 ?side3 ?side4 ?side5 ?side6 A7.out).mono ?_); (case side1 => exact Kd.C_below HR0_0.out F8_); (case side2 => exact HC0_0.out); (case side3 => exact Kd.C_below HR0_1.out F8_); (case side4 => exact HC0_1.out); (case side5 => exact Kd.C_below HR0_2.out F8_); (case side6 => exact HC0_2.out); rintro e w23 ⟨rfl, hb⟩; refine ⟨_, rfl, ?_⟩; have n0_ := Aside0.mk (blk_below (g := gb101) (o := .cells #[.slice A0_0 l0_0.length c0_0, .slice A0_1 l0_1.length c0_1, .slice A0_2 l0_2.length c0_2] 96 (0, 0)) (by (with_reducible repeat (first | refine blk_drewN ?_ _ | refine blk_drew ?_ | refine blk_alloc ?_ _)); refine blk_far ?_ NB101_113.out _; (with_reducible repeat (first | refine blk_drewN ?_ _ | refine blk_drew ?_ | refine blk_alloc ?_ _)); refine blk_far ?_ NB101_113.out _; (with_reducible repeat (first | refine blk_drewN ?_ _ | refine blk_drew ?_ | refine blk_alloc ?_ _)); refine blk_far ?_ NB101_113.out _; (with_reducible repeat (first | refine blk_drewN ?_ _ | refine blk_drew ?_ | refine blk_alloc ?_ _)); refine blk_far ?_ NB101_113.out _; (with_reducible repeat (first | refine blk_drewN ?_ _ | refine blk_drew ?_ | refine blk_alloc ?_ _)); refine blk_far ?_ NB101_113.out _; (with_reducible repeat (first | refine blk_drewN ?_ _ | refine blk_drew ?_ | refine blk_alloc ?_ _)); refine blk_far ?_ NB101_113.out _; (with_reducible repeat (first | refine blk_drewN ?_ _ | refine blk_drew ?_ | refine blk_alloc ?_ _)); refine blk_far ?_ NB101_113.out _; (with_reducible repeat (first | refine blk_drewN ?_ _ | refine blk_drew ?_ | refine blk_alloc ?_ _)); refine blk_far ?_ NB101_113.out _; (with_reducible repeat (first | refine blk_drewN ?_ _ | refine blk_drew ?_ | refine blk_alloc ?_ _)); exact BK101.out) hb); have n1_ := Aside0.mk (blk_below (g := gb102) (o := .cells #[.slice A1_0 l1_0.length c1_0, .int .i64 a1_1, .int .i64 a1_2] 99 (0, 0)) (by (with_reducible repeat (first | refine blk_drewN ?_ _ | refine blk_drew ?_ | refine blk_alloc ?_ _)); refine blk_far ?_ NB102_113.out _; (with_reducible repeat (first | refine blk_drewN ?_ _ | refine blk_drew ?_ | refine blk_alloc ?_ _)); refine blk_far ?_ NB102_113.out _; (with_reducible repeat (first | refine blk_drewN ?_ _ | refine blk_drew ?_ | refine blk_alloc ?_ _)); refine blk_far ?_ NB102_113.out _; (with_reducible repeat (first | refine blk_drewN ?_ _ | refine blk_drew ?_ | refine blk_alloc ?_ _)); refine blk_far ?_ NB102_113.out _; (with_reducible repeat (first | refine blk_drewN ?_ _ | refine blk_drew ?_ | refine blk_alloc ?_ _)); refine blk_far ?_ NB102_113.out _; (with_reducible repeat (first | refine blk_drewN ?_ _ | refine blk_drew ?_ | refine blk_alloc ?_ _)); refine blk_far ?_ NB102_113.out _; (with_reducible repeat (first | refine blk_drewN ?_ _ | refine blk_drew ?_ | refine blk_alloc ?_ _)); refine blk_far ?_ NB102_113.out _; (with_reducible repeat (first | refine blk_drewN ?_ _ | refine blk_drew ?_ | refine blk_alloc ?_ _)); refine blk_far ?_ NB102_113.out _; (with_reducible repeat (first | refine blk_drewN ?_ _ | refine blk_drew ?_ | refine blk_alloc ?_ _)); exact BK102.out) hb); have n2_ := Aside0.mk (blk_below (g := gb103) (o := .cells #[.slice A2_0 l2_0.length c2_0, .int .i64 a2_1, .int .i64 a2_2] 26 (0, 0)) (by (with_reducible repeat (first | refine blk_drewN ?_ _ | refine blk_drew ?_ | refine blk_alloc ?_ _)); refine blk_far ?_ NB103_113.out _; (with_reducible repeat (first | refine blk_drewN ?_ _ | refine blk_drew ?_ | refine blk_alloc ?_ _)); refine blk_far ?_ NB103_113.out _; (with_reducible repeat (first | refine blk_drewN ?_ _ | refine blk_drew ?_ | refine blk_alloc ?_ _)); refine blk_far ?_ NB103_113.out _; (with_reducible repeat (first | refine blk_drewN ?_ _ | refine blk_drew ?_ | refine blk_alloc ?_ _)); refine blk_far ?_ NB103_113.out _; (with_reducible repeat (first | refine blk_drewN ?_ _ | refine blk_drew ?_ | refine blk_alloc ?_ _)); refine blk_far ?_ NB103_113.out _; (with_reducible repeat (first | refine blk_drewN ?_ _ | refine blk_drew ?_ | refine blk_alloc ?_ _)); refine blk_far ?_ NB103_113.out _; (with_reducible repeat (first | refine blk_drewN ?_ _ | refine blk_drew ?_ | refine blk_alloc ?_ _)); refine blk_far ?_ NB103_113.out _; (with_reducible repeat (first | refine blk_drewN ?_ _ | refine blk_drew ?_ | refine blk_alloc ?_ _)); refine blk_far ?_ NB103_113.out _; (with_reducible repeat (first | refine blk_drewN ?_ _ | refine blk_drew ?_ | refine blk_alloc ?_ _)); exact BK103.out) hb); have n3_ := Aside0.mk (blk_below (g := gb113) (o := .cells #[.int .i64 t104, .int .i64 t105, .int .i64 t106, .int .u64 t107, .int .u64 t108, .int .u64 t109, .int .u64 t110, .int .i64 t111] 70 (0, 0)) (by (with_reducible repeat (first | refine blk_drewN ?_ _ | refine blk_drew ?_ | refine blk_alloc ?_ _)); refine blk_put (cs := #[.int .i64 t104, .int .i64 t105, .int .i64 t106, .int .u64 t107, .int .u64 t108, .int .u64 t109, .int .u64 t110, .int .i64 0]) ?_ 7 _ rfl; (with_reducible repeat (first | refine blk_drewN ?_ _ | refine blk_drew ?_ | refine blk_alloc ?_ _)); refine blk_put (cs := #[.int .i64 t104, .int .i64 t105, .int .i64 t106, .int .u64 t107, .int .u64 t108, .int .u64 t109, .int .u64 0, .int .i64 0]) ?_ 6 _ rfl; (with_reducible repeat (first | refine blk_drewN ?_ _ | refine blk_drew ?_ | refine blk_alloc ?_ _)); refine blk_put (cs := #[.int .i64 t104, .int .i64 t105, .int .i64 t106, .int .u64 t107, .int .u64 t108, .int .u64 0, .int .u64 0, .int .i64 0]) ?_ 5 _ rfl; (with_reducible repeat (first | refine blk_drewN ?_ _ | refine blk_drew ?_ | refine blk_alloc ?_ _)); refine blk_put (cs := #[.int .i64 t104, .int .i64 t105, .int .i64 t106, .int .u64 t107, .int .u64 0, .int .u64 0, .int .u64 0, .int .i64 0]) ?_ 4 _ rfl; (with_reducible repeat (first | refine blk_drewN ?_ _ | refine blk_drew ?_ | refine blk_alloc ?_ _)); refine blk_put (cs := #[.int .i64 t104, .int .i64 t105, .int .i64 t106, .int .u64 0, .int .u64 0, .int .u64 0, .int .u64 0, .int .i64 0]) ?_ 3 _ rfl; (with_reducible repeat (first | refine blk_drewN ?_ _ | refine blk_drew ?_ | refine blk_alloc ?_ _)); refine blk_put (cs := #[.int .i64 t104, .int .i64 t105, .int .i64 0, .int .u64 0, .int .u64 0, .int .u64 0, .int .u64 0, .int .i64 0]) ?_ 2 _ rfl; (with_reducible repeat (first | refine blk_drewN ?_ _ | refine blk_drew ?_ | refine blk_alloc ?_ _)); refine blk_put (cs := #[.int .i64 t104, .int .i64 0, .int .i64 0, .int .u64 0, .int .u64 0, .int .u64 0, .int .u64 0, .int .i64 0]) ?_ 1 _ rfl; (with_reducible repeat (first | refine blk_drewN ?_ _ | refine blk_drew ?_ | refine blk_alloc ?_ _)); refine blk_put (cs := #[.int .i64 0, .int .i64 0, .int .i64 0, .int .u64 0, .int .u64 0, .int .u64 0, .int .u64 0, .int .i64 0]) ?_ 0 _ rfl; (with_reducible repeat (first | refine blk_drewN ?_ _ | refine blk_drew ?_ | refine blk_alloc ?_ _)); exact BK113.out) hb); have n4_ := Aside0.mk (below_step F8_ hb); clear BK101; clear BK102; clear BK103; clear BK113; clear HB; have BK101 := n0_; have BK102 := n1_; have BK103 := n2_; have BK113 := n3_; have HB := n4_; clear n0_ n1_ n2_ n3_ n4_; (try clear hb); (try clear hb2); (try clear hk); (try clear hi)) | ((with_reducible refine gate_dst (N := 14) rfl ?_); refine box_event ?hg (N := 14) ?hd (cs := #[.int .i64 0, .int .i64 0, .int .u64 0, .int .u64 0, .int .u64 0, .int .u64 0, .int .u64 0, .int .u64 0, .int .u64 0, .int .u64 0]) (t := 150) ?hr ?_; (case hd => rfl); (case hg => rfl); (case hr => first | (go_simp; done) | (go_simp; rfl)); intro gb125 hg w24 hbox hb; have n0_ := Aside0.mk (blk_below (g := gb101) (o := .cells #[.slice A0_0 l0_0.length c0_0, .slice A0_1 l0_1.length c0_1, .slice A0_2 l0_2.length c0_2] 96 (0, 0)) F3_ hb); have n1_ := Aside0.mk (blk_below (g := gb102) (o := .cells #[.slice A1_0 l1_0.length c1_0, .int .i64 a1_1, .int .i64 a1_2] 99 (0, 0)) F5_ hb); have n2_ := Aside0.mk (blk_below (g := gb103) (o := .cells #[.slice A2_0 l2_0.length c2_0, .int .i64 a2_1, .int .i64 a2_2] 26 (0, 0)) F6_ hb); have n3_ := Aside0.mk (blk_below (g := gb113) (o := .cells #[.int .i64 t104, .int .i64 t105, .int .i64 t106, .int .u64 t107, .int .u64 t108, .int .u64 t109, .int .u64 t110, .int .i64 t111] 70 (0, 0)) F9_ hb); have n4_ := Aside0.mk (below_step F8_ hb); have n5_ := Aside0.mk (hbox); have n6_ := Aside0.mk ((by rw [hg]; exact (below_size F8_) : w.heap.size ≤ gb125)); have n7_ := Aside0.mk ((by rw [hg]; exact (below_size F8_) : w.heap.size ≤ gb125)); have n8_ := Aside0.mk ((by rw [hg]; exact Nat.ne_of_lt (blk_lt (g := gb101) (o := .cells #[.slice A0_0 l0_0.length c0_0, .slice A0_1 l0_1.length c0_1, .slice A0_2 l0_2.length c0_2] 96 (0, 0)) F3_) : gb101 ≠ gb125)); have n9_ := Aside0.mk ((by rw [hg]; exact Nat.ne_of_gt (blk_lt (g := gb101) (o := .cells #[.slice A0_0 l0_0.length c0_0, .slice A0_1 l0_1.length c0_1, .slice A0_2 l0_2.length c0_2] 96 (0, 0)) F3_) : gb125 ≠ gb101)); have n10_ := Aside0.mk ((by rw [hg]; exact Nat.ne_of_lt (blk_lt (g := gb102) (o := .cells #[.slice A1_0 l1_0.length c1_0, .int .i64 a1_1, .int .i64 a1_2] 99 (0, 0)) F5_) : gb102 ≠ gb125)); have n11_ := Aside0.mk ((by rw [hg]; exact Nat.ne_of_gt (blk_lt (g := gb102) (o := .cells #[.slice A1_0 l1_0.length c1_0, .int .i64 a1_1, .int .i64 a1_2] 99 (0, 0)) F5_) : gb125 ≠ gb102)); have n12_ := Aside0.mk ((by rw [hg]; exact Nat.ne_of_lt (blk_lt (g := gb103) (o := .cells #[.slice A2_0 l2_0.length c2_0, .int .i64 a2_1, .int .i64 a2_2] 26 (0, 0)) F6_) : gb103 ≠ gb125)); have n13_ := Aside0.mk ((by rw [hg]; exact Nat.ne_of_gt (blk_lt (g := gb103) (o := .cells #[.slice A2_0 l2_0.length c2_0, .int .i64 a2_1, .int .i64 a2_2] 26 (0, 0)) F6_) : gb125 ≠ gb103)); have n14_ := Aside0.mk ((by rw [hg]; exact Nat.ne_of_lt (blk_lt (g := gb113) (o := .cells #[.int .i64 t104, .int .i64 t105, .int .i64 t106, .int .u64 t107, .int .u64 t108, .int .u64 t109, .int .u64 t110, .int .i64 t111] 70 (0, 0)) F9_) : gb113 ≠ gb125)); have n15_ := Aside0.mk ((by rw [hg]; exact Nat.ne_of_gt (blk_lt (g := gb113) (o := .cells #[.int .i64 t104, .int .i64 t105, .int .i64 t106, .int .u64 t107, .int .u64 t108, .int .u64 t109, .int .u64 t110, .int .i64 t111] 70 (0, 0)) F9_) : gb125 ≠ gb113)); clear BK101; clear BK102; clear BK103; clear BK113; clear HB; have BK101 := n0_; have BK102 := n1_; have BK103 := n2_; have BK113 := n3_; have HB := n4_; have BK125 := n5_; have GW125 := n6_; have GE125 := n7_; have NB101_125 := n8_; have NB125_101 := n9_; have NB102_125 := n10_; have NB125_102 := n11_; have NB103_125 := n12_; have NB125_103 := n13_; have NB113_125 := n14_; have NB125_113 := n15_; clear n0_ n1_ n2_ n3_ n4_ n5_ n6_ n7_ n8_ n9_ n10_ n11_ n12_ n13_ n14_ n15_; clear hb hbox hg; have hnb25 := NB125_101.out; have hnc25 := NB101_125.out; have hnb26 := NB125_102.out; have hnc26 := NB102_125.out; have hnb27 := NB125_103.out; have hnc27 := NB103_125.out; have hnb28 := NB125_113.out; have hnc28 := NB113_125.out; have hcz29_0 : w24.cell? ⟨gb125, 0, none⟩ = some (.int .i64 0) := (blk_cell BK125.out 0).trans rfl; have hcz29_1 : w24.cell? ⟨gb125, 1, none⟩ = some (.int .i64 0) := (blk_cell BK125.out 1).trans rfl; have hcz29_2 : w24.cell? ⟨gb125, 2, none⟩ = some (.int .u64 0) := (blk_cell BK125.out 2).trans rfl; have hcz29_3 : w24.cell? ⟨gb125, 3, none⟩ = some (.int .u64 0) := (blk_cell BK125.out 3).trans rfl; have hcz29_4 : w24.cell? ⟨gb125, 4, none⟩ = some (.int .u64 0) := (blk_cell BK125.out 4).trans rfl; have hcz29_5 : w24.cell? ⟨gb125, 5, none⟩ = some (.int .u64 0) := (blk_cell BK125.out 5).trans rfl; have hcz29_6 : w24.cell? ⟨gb125, 6, none⟩ = some (.int .u64 0) := (blk_cell BK125.out 6).trans rfl; have hcz29_7 : w24.cell? ⟨gb125, 7, none⟩ = some (.int .u64 0) := (blk_cell BK125.out 7).trans rfl; have hcz29_8 : w24.cell? ⟨gb125, 8, none⟩ = some (.int .u64 0) := (blk_cell BK125.out 8).trans rfl; have hcz29_9 : w24.cell? ⟨gb125, 9, none⟩ = some (.int .u64 0) := (blk_cell BK125.out 9).trans rfl; have hfz29_0 := blk_frozen BK125.out 0; have hfz29_1 := blk_frozen BK125.out 1; have hfz29_2 := blk_frozen BK125.out 2; have hfz29_3 := blk_frozen BK125.out 3; have hfz29_4 := blk_frozen BK125.out 4; have hfz29_5 := blk_frozen BK125.out 5; have hfz29_6 := blk_frozen BK125.out 6; have hfz29_7 := blk_frozen BK125.out 7; have hfz29_8 := blk_frozen BK125.out 8; have hfz29_9 := blk_frozen BK125.out 9))
 (try simp only [Act.put, List.setIfInBounds_toArray, List.set_cons_zero, List.set_cons_succ])
 go_cut [38] (fun v38 wc => ∃ (kq : Nat) (x38_7 : Bool), v38 = .bool x38_7 ∧ Aside0 (victim_Choose.j0 kq a3 a4 x38_7 l0_0 l0_1 l0_2 l1_0 a1_1 a1_2 l2_0 a2_1 a2_2 = some (r1, r2)) ∧ Aside0 (kq ≤ k) ∧ Aside0 (wc.heap[gb101]? = some (.cells #[(.slice A0_0 l0_0.length c0_0), (.slice A0_1 l0_1.length c0_1), (.slice A0_2 l0_2.length c0_2)] 96 (0, 0))) ∧ Aside0 (wc.heap[gb102]? = some (.cells #[(.slice A1_0 l1_0.length c1_0), .int .i64 a1_1, .int .i64 a1_2] 99 (0, 0))) ∧ Aside0 (wc.heap[gb103]? = some (.cells #[(.slice A2_0 l2_0.length c2_0), .int .i64 a2_1, .int .i64 a2_2] 26 (0, 0))) ∧ Aside0 (wc.heap[gb113]? = some (.cells #[.int .i64 t104, .int .i64 t105, .int .i64 t106, .int .u64 t107, .int .u64 t108, .int .u64 t109, .int .u64 t110, .int .i64 t111] 70 (0, 0))) ∧ Aside0 (wc.heap[gb125]? = some (.cells #[.int .i64 t114, .int .i64 t115, .int .u64 t116, .int .u64 t117, .int .u64 t118, .int .u64 t119, .int .u64 t120, .int .u64 t121, .int .u64 t122, .int .u64 t123] 150 (0, 0))) ∧ Aside0 (Below w.heap.size w wc))
 case first =>
  have H := HC8.out
  clear HC8
  by_cases c30 : t112 = true
  ·subst c30
   have H1 : (victim_Choose.j0 k a3 a4 (!t124) l0_0 l0_1 l0_2 l1_0 a1_1 a1_2 l2_0 a2_1 a2_2) = some (r1, r2) := by rw [if_pos rfl] at H; exact H
   clear H
   have H := H1
   clear H1
   have H' := Aside0.mk H
   clear H
   go_wp2
   go_meet
   case rel => exact ⟨_, (!t124), F32_, H', ⟨by first | omega | exact Nat.le_refl _⟩, ⟨F10_⟩, ⟨F11_⟩, ⟨F12_⟩, ⟨F13_⟩, ⟨F2_⟩, ⟨F4_⟩⟩
  ·replace c30 := Bool.eq_false_iff.mpr c30
   subst c30
   have H1 : (victim_Choose.j0 k a3 a4 true l0_0 l0_1 l0_2 l1_0 a1_1 a1_2 l2_0 a2_1 a2_2) = some (r1, r2) := by rw [if_neg (show ¬ (false = true) by decide)] at H; exact H
   clear H
   have H := H1
   clear H1
   have H' := Aside0.mk H
   clear H
   go_wp2
   go_meet
   case rel => exact ⟨_, (true), F32_, H', ⟨by first | omega | exact Nat.le_refl _⟩, ⟨F10_⟩, ⟨F11_⟩, ⟨F12_⟩, ⟨F13_⟩, ⟨F2_⟩, ⟨F4_⟩⟩
 case rest =>
  clear HC8
  try clear c1
  try clear c2
  try clear p2
  try clear c3
  try clear c6
  try clear c8
  try clear c10
  try clear c12
  try clear c13
  try clear c17
  try clear c18
  try clear c19
  try clear c21
  try clear c25
  try clear c26
  try clear c27
  try clear c28
  try clear c30
  try clear hcz14_0
  try clear hcz14_1
  try clear hcz14_2
  try clear hcz20_0
  try clear hcz20_1
  try clear hcz20_2
  try clear hcz20_3
  try clear hcz20_4
  try clear hcz20_5
  try clear hcz20_6
  try clear hcz20_7
  try clear hcz22_0
  try clear hcz22_1
  try clear hcz22_2
  try clear hcz29_0
  try clear hcz29_1
  try clear hcz29_2
  try clear hcz29_3
  try clear hcz29_4
  try clear hcz29_5
  try clear hcz29_6
  try clear hcz29_7
  try clear hcz29_8
  try clear hcz29_9
  try clear hfz14_0
  try clear hfz14_1
  try clear hfz14_2
  try clear hfz20_0
  try clear hfz20_1
  try clear hfz20_2
  try clear hfz20_3
  try clear hfz20_4
  try clear hfz20_5
  try clear hfz20_6
  try clear hfz20_7
  try clear hfz22_0
  try clear hfz22_1
  try clear hfz22_2
  try clear hfz29_0
  try clear hfz29_1
  try clear hfz29_2
  try clear hfz29_3
  try clear hfz29_4
  try clear hfz29_5
  try clear hfz29_6
  try clear hfz29_7
  try clear hfz29_8
  try clear hfz29_9
  obtain ⟨kq, x38_7, rfl, HA, HJ7, BK101, BK102, BK103, BK113, BK125, HB⟩ := hcut
  cases kq with
  | zero => exact absurd HA.out (by simp [victim_Choose.j0])
  | succ kj7 =>
   have H := HA.out
   clear HA
   simp only [victim_Choose.j0] at H
   by_cases c31 : x38_7 = true
   ·subst c31
    have H1 : (some (([] : List Int), some 4)) = some (r1, r2) := by rw [if_pos rfl] at H; exact H
    clear H
    have H := H1
    clear H1
    simp only [Option.some.injEq, Prod.mk.injEq] at H
    obtain ⟨rfl, rfl⟩ := H
    go_wp2
    go_ret2
    exact ⟨_, by first | rfl | (simp [errW_none, errW_some] <;> rfl) | (simp [*, errW_none, errW_some] <;> rfl), by first | exact Kd.R_nil _ _ _ _ _ | exact Kd.N_nil _ _ _ _ _ | exact Kd.V_nil _ _ _ _ _ | exact Kd.Q_nil _ _ _ _ _ | exact Kd.S_nil _ _ _ _ _, F4_⟩
   ·replace c31 := Bool.eq_false_iff.mpr c31
    subst c31
    have H1 : ((prior_Victims.f l2_0 a2_1 a2_2 a3 a4).bind fun t126 => (victim_Choose.l0 kj7 a3 a4 t126 0 l0_0 l0_1 l0_2 l1_0 a1_1 a1_2 l2_0 a2_1 a2_2)) = some (r1, r2) := by rw [if_neg (show ¬ (false = true) by decide)] at H; exact H
    clear H
    have H := H1
    clear H1
    replace H := Option.bind_eq_some_iff.mp H
    obtain ⟨t126, A320, H⟩ := H
    replace H : (victim_Choose.l0 kj7 a3 a4 t126 0 l0_0 l0_1 l0_2 l1_0 a1_1 a1_2 l2_0 a2_1 a2_2) = some (r1, r2) := H
    have A32 := Aside0.mk A320
    clear A320
    have H' := Aside0.mk H
    clear H
    have hnb33 := NB103_101.out
    have hnc33 := NB101_103.out
    have hnb34 := NB103_102.out
    have hnc34 := NB102_103.out
    have hnb35 := NB103_113.out
    have hnc35 := NB113_103.out
    have hnb36 := NB103_125.out
    have hnc36 := NB125_103.out
    have hcz37_0 : wc.cell? ⟨gb103, 0, none⟩ = some (.slice A2_0 l2_0.length c2_0) := (blk_cell BK103.out 0).trans rfl
    have hcz37_1 : wc.cell? ⟨gb103, 1, none⟩ = some (.int .i64 a2_1) := (blk_cell BK103.out 1).trans rfl
    have hcz37_2 : wc.cell? ⟨gb103, 2, none⟩ = some (.int .i64 a2_2) := (blk_cell BK103.out 2).trans rfl
    have hfz37_0 := blk_frozen BK103.out 0
    have hfz37_1 := blk_frozen BK103.out 1
    have hfz37_2 := blk_frozen BK103.out 2
    go_wp2_with (first | ((with_reducible refine gate_callee (f := 48) rfl ?_); refine goesL_ (some 43) rfl rfl Try.func48 (by kernel_rfl) rfl #[.agg #[.slice A2_0 l2_0.length c2_0, .int .i64 a2_1, .int .i64 a2_2], .int .i64 a3, .int .i64 a4] rfl F7_ ?_; (with_reducible refine (prior_Victims.calls _ _ l2_0 a2_1 a2_2 a3 a4 t126 _ ?side1 ?side2 A32.out).mono ?_); (case side1 => exact F16_); (case side2 => exact HC2_0.out); rintro e w38 ⟨v127, rfl, ho0, hb⟩; refine ⟨_, rfl, ?_⟩; have n0_ := Aside0.mk (Kd.R_lower ho0 (below_size F1_)); have n1_ := Aside0.mk (blk_below (g := gb101) (o := .cells #[.slice A0_0 l0_0.length c0_0, .slice A0_1 l0_1.length c0_1, .slice A0_2 l0_2.length c0_2] 96 (0, 0)) F3_ hb); have n2_ := Aside0.mk (blk_below (g := gb102) (o := .cells #[.slice A1_0 l1_0.length c1_0, .int .i64 a1_1, .int .i64 a1_2] 99 (0, 0)) F5_ hb); have n3_ := Aside0.mk (blk_below (g := gb103) (o := .cells #[.slice A2_0 l2_0.length c2_0, .int .i64 a2_1, .int .i64 a2_2] 26 (0, 0)) F6_ hb); have n4_ := Aside0.mk (blk_below (g := gb113) (o := .cells #[.int .i64 t104, .int .i64 t105, .int .i64 t106, .int .u64 t107, .int .u64 t108, .int .u64 t109, .int .u64 t110, .int .i64 t111] 70 (0, 0)) F9_ hb); have n5_ := Aside0.mk (blk_below (g := gb125) (o := .cells #[.int .i64 t114, .int .i64 t115, .int .u64 t116, .int .u64 t117, .int .u64 t118, .int .u64 t119, .int .u64 t120, .int .u64 t121, .int .u64 t122, .int .u64 t123] 150 (0, 0)) F14_ hb); have n6_ := Aside0.mk (below_step F1_ hb); clear BK101; clear BK102; clear BK103; clear BK113; clear BK125; clear HB; have HO128 := n0_; have BK101 := n1_; have BK102 := n2_; have BK103 := n3_; have BK113 := n4_; have BK125 := n5_; have HB := n6_; clear n0_ n1_ n2_ n3_ n4_ n5_ n6_; (try clear hb); (try clear hb2); (try clear hk); (try clear hi); (try clear ho0)))
    go_loopg [17] kj7 (fun kq v17 w' => ∃ (x17_2 : Int), v17 = .int .i64 x17_2 ∧ Aside0 (victim_Choose.l0 kq a3 a4 t126 x17_2 l0_0 l0_1 l0_2 l1_0 a1_1 a1_2 l2_0 a2_1 a2_2 = some (r1, r2)) ∧ Aside0 (kq ≤ kj7) ∧ Aside0 (Kd.R (Kd.int .i64) 3 w' w.heap.size (fun _ => True) v127 t126) ∧ Aside0 (w'.heap[gb101]? = some (.cells #[(.slice A0_0 l0_0.length c0_0), (.slice A0_1 l0_1.length c0_1), (.slice A0_2 l0_2.length c0_2)] 96 (0, 0))) ∧ Aside0 (w'.heap[gb102]? = some (.cells #[(.slice A1_0 l1_0.length c1_0), .int .i64 a1_1, .int .i64 a1_2] 99 (0, 0))) ∧ Aside0 (w'.heap[gb103]? = some (.cells #[(.slice A2_0 l2_0.length c2_0), .int .i64 a2_1, .int .i64 a2_2] 26 (0, 0))) ∧ Aside0 (w'.heap[gb113]? = some (.cells #[.int .i64 t104, .int .i64 t105, .int .i64 t106, .int .u64 t107, .int .u64 t108, .int .u64 t109, .int .u64 t110, .int .i64 t111] 70 (0, 0))) ∧ Aside0 (w'.heap[gb125]? = some (.cells #[.int .i64 t114, .int .i64 t115, .int .u64 t116, .int .u64 t117, .int .u64 t118, .int .u64 t119, .int .u64 t120, .int .u64 t121, .int .u64 t122, .int .u64 t123] 150 (0, 0))) ∧ Aside0 (Below w.heap.size w w'))
    case atStart => exact ⟨(0), F32_, H', ⟨Nat.le_refl _⟩, ⟨by (with_reducible repeat (first | apply Kd.R_alloc | apply Kd.R_drewN | apply Kd.R_drew)); exact HO128.out⟩, ⟨F23_⟩, ⟨F24_⟩, ⟨F25_⟩, ⟨F26_⟩, ⟨F27_⟩, ⟨F4_⟩⟩
    case round =>
     clear H'
     try clear c1
     try clear c2
     try clear p2
     try clear c3
     try clear c4
     try clear c6
     try clear c8
     try clear c10
     try clear c12
     try clear c13
     try clear c17
     try clear c18
     try clear c19
     try clear c21
     try clear c25
     try clear c26
     try clear c27
     try clear c28
     try clear c30
     try clear c31
     try clear c33
     try clear c34
     try clear c35
     try clear c36
     try clear hcz14_0
     try clear hcz14_1
     try clear hcz14_2
     try clear hcz20_0
     try clear hcz20_1
     try clear hcz20_2
     try clear hcz20_3
     try clear hcz20_4
     try clear hcz20_5
     try clear hcz20_6
     try clear hcz20_7
     try clear hcz22_0
     try clear hcz22_1
     try clear hcz22_2
     try clear hcz29_0
     try clear hcz29_1
     try clear hcz29_2
     try clear hcz29_3
     try clear hcz29_4
     try clear hcz29_5
     try clear hcz29_6
     try clear hcz29_7
     try clear hcz29_8
     try clear hcz29_9
     try clear hcz37_0
     try clear hcz37_1
     try clear hcz37_2
     try clear hfz14_0
     try clear hfz14_1
     try clear hfz14_2
     try clear hfz20_0
     try clear hfz20_1
     try clear hfz20_2
     try clear hfz20_3
     try clear hfz20_4
     try clear hfz20_5
     try clear hfz20_6
     try clear hfz20_7
     try clear hfz22_0
     try clear hfz22_1
     try clear hfz22_2
     try clear hfz29_0
     try clear hfz29_1
     try clear hfz29_2
     try clear hfz29_3
     try clear hfz29_4
     try clear hfz29_5
     try clear hfz29_6
     try clear hfz29_7
     try clear hfz29_8
     try clear hfz29_9
     try clear hfz37_0
     try clear hfz37_1
     try clear hfz37_2
     try clear p2
     obtain ⟨x17_2, rfl, HA, HK2, HO_16, BK101, BK102, BK103, BK113, BK125, HB⟩ := hrel
     cases gk with
     | zero => exact absurd HA.out (by simp [victim_Choose.l0])
     | succ k2 =>
      have H := HA.out
      clear HA
      simp only [victim_Choose.l0] at H
      by_cases c39 : 0 ≤ x17_2
      ·rw [if_pos c39] at H
       have c39b0 := eq_true c39
       have c39b1 : decide (0 ≤ x17_2) = true := decide_eq_true c39
       clear c39
       by_cases c40 : x17_2 ≤ (t126.length : Int)
       ·rw [if_pos c40] at H
        have c40b0 := eq_true c40
        have c40b1 : decide (x17_2 ≤ (t126.length : Int)) = true := decide_eq_true c40
        clear c40
        obtain ⟨y129, hy129⟩ : ∃ y_ : List Int, y_ = (t126.take (x17_2 : Int).toNat) := ⟨_, rfl⟩
        replace H : ((victim_Makes.f k2 l0_0 l0_1 l0_2 l1_0 a1_1 a1_2 l2_0 a2_1 a2_2 a3 a4 y129).bind fun t133 => (if t133 = true then ((slices_Clone_int_int.f (t126.take (x17_2 : Int).toNat)).bind fun t138 => (victim_Choose.l1 k2 a3 a4 t138 (wrap64 (x17_2 - 1)) l0_0 l0_1 l0_2 l1_0 a1_1 a1_2 l2_0 a2_1 a2_2)) else (if x17_2 = (t126.length : Int) then (some (([] : List Int), some 9)) else (victim_Choose.l0 k2 a3 a4 t126 (wrap64 (x17_2 + 1)) l0_0 l0_1 l0_2 l1_0 a1_1 a1_2 l2_0 a2_1 a2_2)))) = some (r1, r2) := by first | (rw [hy129]; with_reducible exact H) | (have H2_ := (Option.bind_some _ _).symm.trans H; rw [hy129]; with_reducible exact H2_) | (have H2_ := (Option.bind_some _ _).symm.trans H; with_reducible exact H2_) | with_reducible exact H | (rw [hy129]; exact H) | exact H
        have Ny129 := Aside0.mk hy129
        clear hy129
        replace H := Option.bind_eq_some_iff.mp H
        obtain ⟨t133, A410, H⟩ := H
        replace H : (if t133 = true then ((slices_Clone_int_int.f (t126.take (x17_2 : Int).toNat)).bind fun t138 => (victim_Choose.l1 k2 a3 a4 t138 (wrap64 (x17_2 - 1)) l0_0 l0_1 l0_2 l1_0 a1_1 a1_2 l2_0 a2_1 a2_2)) else (if x17_2 = (t126.length : Int) then (some (([] : List Int), some 9)) else (victim_Choose.l0 k2 a3 a4 t126 (wrap64 (x17_2 + 1)) l0_0 l0_1 l0_2 l1_0 a1_1 a1_2 l2_0 a2_1 a2_2))) = some (r1, r2) := H
        have A41 := Aside0.mk A410
        clear A410
        by_cases c42 : t133 = true
        ·subst c42
         have H1 : ((slices_Clone_int_int.f (t126.take (x17_2 : Int).toNat)).bind fun t138 => (victim_Choose.l1 k2 a3 a4 t138 (wrap64 (x17_2 - 1)) l0_0 l0_1 l0_2 l1_0 a1_1 a1_2 l2_0 a2_1 a2_2)) = some (r1, r2) := by rw [if_pos rfl] at H; exact H
         clear H
         have H := H1
         clear H1
         have c43b0 := eq_true (of_decide_eq_true F28_ : 0 ≤ x17_2)
         have c44b0 := eq_true (of_decide_eq_true F28_ : x17_2 ≤ (t126.length : Int))
         obtain ⟨y134, hy134⟩ : ∃ y_ : List Int, y_ = (t126.take (x17_2 : Int).toNat) := ⟨_, rfl⟩
         replace H : ((slices_Clone_int_int.f y134).bind fun t138 => (victim_Choose.l1 k2 a3 a4 t138 (wrap64 (x17_2 - 1)) l0_0 l0_1 l0_2 l1_0 a1_1 a1_2 l2_0 a2_1 a2_2)) = some (r1, r2) := by first | (rw [hy134]; with_reducible exact H) | (have H2_ := (Option.bind_some _ _).symm.trans H; rw [hy134]; with_reducible exact H2_) | (have H2_ := (Option.bind_some _ _).symm.trans H; with_reducible exact H2_) | with_reducible exact H | (rw [hy134]; exact H) | exact H
         have Ny134 := Aside0.mk hy134
         clear hy134
         replace H := Option.bind_eq_some_iff.mp H
         obtain ⟨t138, A450, H⟩ := H
         replace H : (victim_Choose.l1 k2 a3 a4 t138 (wrap64 (x17_2 - 1)) l0_0 l0_1 l0_2 l1_0 a1_1 a1_2 l2_0 a2_1 a2_2) = some (r1, r2) := H
         have A45 := Aside0.mk A450
         clear A450
         have H' := Aside0.mk H
         clear H
         try go_wp2
         have n0_ := Aside0.mk (Kd.R_drew HO_16.out)
         have n1_ := Aside0.mk (blk_drew BK101.out)
         have n2_ := Aside0.mk (blk_drew BK102.out)
         have n3_ := Aside0.mk (blk_drew BK103.out)
         have n4_ := Aside0.mk (blk_drew BK113.out)
         have n5_ := Aside0.mk (blk_drew BK125.out)
         have n6_ := Aside0.mk (below_drew1 HB.out)
         clear HO_16
         clear BK101
         clear BK102
         clear BK103
         clear BK113
         clear BK125
         clear HB
         have HO_16 := n0_
         have BK101 := n1_
         have BK102 := n2_
         have BK103 := n3_
         have BK113 := n4_
         have BK125 := n5_
         have HB := n6_
         clear n0_ n1_ n2_ n3_ n4_ n5_ n6_
         obtain ⟨Ao48, co48, eo48⟩ := Kd.R_slice HO_16.out
         (first | subst eo48 | (injection eo48 with f1_ f2_ f3_; have f4_ := f1_.symm; have f5_ := f3_.symm; clear f1_ f2_ f3_; subst f4_; subst f5_))
         have q47 : (x17_2 : Int) ≤ ((t126.length : Int) : Int) := of_decide_eq_true F28_
         obtain ⟨i047, hi047, _, hsz47, _⟩ := info_parts info3
         have hroom47 : t126.length ≤ co48 := (Kd.R_reads' HO_16.out).2.1
         have hC47 : Kd.C (Kd.int .i64) _ Ao48 t126.length t126 := (Kd.R_reads' HO_16.out).2.2
         have hcut47 := cut_to (P := Try.prog) 71 3 .i64 Try.underlying71 hi047 Ao48 t126.length co48 x17_2 (of_decide_eq_true F28_) q47 hroom47
         have hr47 := Kd.C_take (m := (x17_2 : Int).toNat) hC47 (by omega)
         have hy47 : y129.length = (x17_2 : Int).toNat := (by rw [Ny129.out, List.length_take]; omega)
         rw [← Ny129.out] at hr47
         rw [← hy47] at hcut47
         have HR132 := Aside0.mk hr47
         have HC132 := Aside0.mk (show y129.length ≤ co48 from by omega)
         clear hr47 hC47 hroom47 hi047 hsz47
         have KY47 := Aside0.mk hy47
         clear hy47
         have KL47 := Aside0.mk (show (x17_2 : Int).toNat ≤ t126.length from by omega)
         replace q47 := eq_true q47
         refine start_ (n := 10) (S := fun w' => w'.cell? ⟨gb101, 0, none⟩ = some (.slice A0_0 l0_0.length c0_0) ∧ w'.cell? ⟨gb101, 1, none⟩ = some (.slice A0_1 l0_1.length c0_1) ∧ w'.cell? ⟨gb101, 2, none⟩ = some (.slice A0_2 l0_2.length c0_2) ∧ w'.cell? ⟨gb102, 0, none⟩ = some (.slice A1_0 l1_0.length c1_0) ∧ w'.cell? ⟨gb102, 1, none⟩ = some (.int .i64 a1_1) ∧ w'.cell? ⟨gb102, 2, none⟩ = some (.int .i64 a1_2) ∧ w'.cell? ⟨gb103, 0, none⟩ = some (.slice A2_0 l2_0.length c2_0) ∧ w'.cell? ⟨gb103, 1, none⟩ = some (.int .i64 a2_1) ∧ w'.cell? ⟨gb103, 2, none⟩ = some (.int .i64 a2_2)) (ds := []) #[false, false, false, false, false, false, false, false, false, false] (by kernel_rfl) rfl rfl ⟨(blk_cell BK101.out 0).trans rfl, (blk_cell BK101.out 1).trans rfl, (blk_cell BK101.out 2).trans rfl, (blk_cell BK102.out 0).trans rfl, (blk_cell BK102.out 1).trans rfl, (blk_cell BK102.out 2).trans rfl, (blk_cell BK103.out 0).trans rfl, (blk_cell BK103.out 1).trans rfl, (blk_cell BK103.out 2).trans rfl⟩ (fun hHeld => ?_); refine with_tabW victim_Choose.tab7 victim_Choose.bits7 (fun HT_ HW_ => ?_)
         generalize wr.drew = w46 at HO_16 BK101 BK102 BK103 BK113 BK125 HB HR132 hHeld ⊢
         refine pure_ (i := 3) (N := some 47) (v := ?_) (a' := ?_) #[false, false, false, true, false, false, false, false, false, false] rfl rfl (any_of HT_.out (by kernel_rfl)) (fun _ _ _ h => h) (Or.inl ⟨by rfl, ?_⟩) ?_ ?_
         rotate_left
         ·intro w'
          go_simp
          with_reducible rfl
         rotate_left
         ·simp only [Act.put, List.setIfInBounds_toArray, List.set_cons_zero, List.set_cons_succ, i64_w, i32_w]
          rfl
         refine pure_ (i := 4) (N := some 48) (v := ?_) (a' := ?_) #[false, false, false, true, true, false, false, false, false, false] rfl rfl (any_of HT_.out (by kernel_rfl)) (fun _ _ _ h => h) (Or.inl ⟨by rfl, ?_⟩) ?_ ?_
         rotate_left
         ·intro w'
          go_simp
          with_reducible rfl
         rotate_left
         ·simp only [Act.put, List.setIfInBounds_toArray, List.set_cons_zero, List.set_cons_succ, i64_w, i32_w]
          rfl
         refine pure_ (i := 5) (N := some 49) (v := ?_) (a' := ?_) #[false, false, false, true, true, true, false, false, false, false] rfl rfl (any_of HT_.out (by kernel_rfl)) (fun _ _ _ h => h) (Or.inl ⟨by rfl, ?_⟩) ?_ ?_
         rotate_left
         ·intro w'
          go_simp
          with_reducible rfl
         rotate_left
         ·simp only [Act.put, List.setIfInBounds_toArray, List.set_cons_zero, List.set_cons_succ, i64_w, i32_w]
          rfl
         refine pure_ (i := 6) (N := some 50) (v := ?_) (a' := ?_) #[false, false, false, true, true, true, true, false, false, false] rfl rfl (any_of HT_.out (by kernel_rfl)) (fun _ _ _ h => h) (Or.inl ⟨by rfl, ?_⟩) ?_ ?_
         rotate_left
         ·intro w'
          go_simp
          with_reducible rfl
         rotate_left
         ·simp only [Act.put, List.setIfInBounds_toArray, List.set_cons_zero, List.set_cons_succ, i64_w, i32_w]
          rfl
         refine pure_ (i := 7) (N := some 51) (v := ?_) (a' := ?_) #[false, false, false, true, true, true, true, true, false, false] rfl rfl (any_of HT_.out (by kernel_rfl)) (fun _ _ _ h => h) (Or.inl ⟨by rfl, ?_⟩) ?_ ?_
         rotate_left
         ·intro w'
          go_simp
          with_reducible rfl
         rotate_left
         ·simp only [Act.put, List.setIfInBounds_toArray, List.set_cons_zero, List.set_cons_succ, i64_w, i32_w]
          rfl
         refine take_ (i := 0) (N := some 44) (v := ?_) (a' := ?_) #[true, false, false, true, true, true, true, true, false, false] rfl rfl (take_ofW HT_.out HW_.out (by kernel_rfl)) (fun _ _ _ h => h) (Or.inl ⟨by rfl, ?_⟩) hHeld ?_ ?_
         rotate_left
         ·rintro w' ⟨s0, s1, s2, s3, s4, s5, s6, s7, s8⟩
          go_simp
          with_reducible rfl
         rotate_left
         ·simp only [Act.put, List.setIfInBounds_toArray, List.set_cons_zero, List.set_cons_succ, i64_w, i32_w]
          rfl
         refine take_ (i := 1) (N := some 45) (v := ?_) (a' := ?_) #[true, true, false, true, true, true, true, true, false, false] rfl rfl (take_ofW HT_.out HW_.out (by kernel_rfl)) (fun _ _ _ h => h) (Or.inl ⟨by rfl, ?_⟩) hHeld ?_ ?_
         rotate_left
         ·rintro w' ⟨s0, s1, s2, s3, s4, s5, s6, s7, s8⟩
          go_simp
          with_reducible rfl
         rotate_left
         ·simp only [Act.put, List.setIfInBounds_toArray, List.set_cons_zero, List.set_cons_succ, i64_w, i32_w]
          rfl
         refine take_ (i := 2) (N := some 46) (v := ?_) (a' := ?_) #[true, true, true, true, true, true, true, true, false, false] rfl rfl (take_ofW HT_.out HW_.out (by kernel_rfl)) (fun _ _ _ h => h) (Or.inl ⟨by rfl, ?_⟩) hHeld ?_ ?_
         rotate_left
         ·rintro w' ⟨s0, s1, s2, s3, s4, s5, s6, s7, s8⟩
          go_simp
          with_reducible rfl
         rotate_left
         ·simp only [Act.put, List.setIfInBounds_toArray, List.set_cons_zero, List.set_cons_succ, i64_w, i32_w]
          rfl
         refine one_ (i := 8) (N := some 52) #[true, true, true, true, true, true, true, true, true, false] rfl rfl (one_of HT_.out (by kernel_rfl)) (by decide) (fun K hK => ?_)
         refine goes_ Try.func62 (by kernel_rfl) rfl #[.agg #[.slice A0_0 l0_0.length c0_0, .slice A0_1 l0_1.length c0_1, .slice A0_2 l0_2.length c0_2], .agg #[.slice A1_0 l1_0.length c1_0, .int .i64 a1_1, .int .i64 a1_2], .agg #[.slice A2_0 l2_0.length c2_0, .int .i64 a2_1, .int .i64 a2_2], .int .i64 a3, .int .i64 a4, .slice Ao48 y129.length co48] (by rfl) rfl rfl F7_ ?_
         with_reducible refine (victim_Makes.calls k2 _ _ l0_0 _ _ l0_1 _ _ l0_2 _ _ l1_0 a1_1 a1_2 _ _ l2_0 a2_1 a2_2 a3 a4 _ _ y129 true _ ?side1 ?side2 ?side3 ?side4 ?side5 ?side6 ?side7 ?side8 ?side9 ?side10 ?side11 ?side12 A41.out).mono ?_
         (case side1 => exact F18_)
         (case side2 => exact HC0_0.out)
         (case side3 => exact F19_)
         (case side4 => exact HC0_1.out)
         (case side5 => exact F20_)
         (case side6 => exact HC0_2.out)
         (case side7 => exact F21_)
         (case side8 => exact HC1_0.out)
         (case side9 => exact F16_)
         (case side10 => exact HC2_0.out)
         (case side11 => exact F33_)
         (case side12 => exact HC132.out)
         rintro e w49 ⟨rfl, hb⟩
         refine ⟨_, rfl, ?_⟩
         have n0_ := Aside0.mk (Kd.R_below F29_ hb)
         have n1_ := Aside0.mk (blk_below (g := gb101) (o := .cells #[.slice A0_0 l0_0.length c0_0, .slice A0_1 l0_1.length c0_1, .slice A0_2 l0_2.length c0_2] 96 (0, 0)) F3_ hb)
         have n2_ := Aside0.mk (blk_below (g := gb102) (o := .cells #[.slice A1_0 l1_0.length c1_0, .int .i64 a1_1, .int .i64 a1_2] 99 (0, 0)) F5_ hb)
         have n3_ := Aside0.mk (blk_below (g := gb103) (o := .cells #[.slice A2_0 l2_0.length c2_0, .int .i64 a2_1, .int .i64 a2_2] 26 (0, 0)) F6_ hb)
         have n4_ := Aside0.mk (blk_below (g := gb113) (o := .cells #[.int .i64 t104, .int .i64 t105, .int .i64 t106, .int .u64 t107, .int .u64 t108, .int .u64 t109, .int .u64 t110, .int .i64 t111] 70 (0, 0)) F9_ hb)
         have n5_ := Aside0.mk (blk_below (g := gb125) (o := .cells #[.int .i64 t114, .int .i64 t115, .int .u64 t116, .int .u64 t117, .int .u64 t118, .int .u64 t119, .int .u64 t120, .int .u64 t121, .int .u64 t122, .int .u64 t123] 150 (0, 0)) F14_ hb)
         have n6_ := Aside0.mk (Kd.C_below F15_ hb)
         have n7_ := Aside0.mk (below_step F1_ hb)
         clear HO_16
         clear BK101
         clear BK102
         clear BK103
         clear BK113
         clear BK125
         clear HR132
         clear HB
         have HO_16 := n0_
         have BK101 := n1_
         have BK102 := n2_
         have BK103 := n3_
         have BK113 := n4_
         have BK125 := n5_
         have HR132 := n6_
         have HB := n7_
         clear n0_ n1_ n2_ n3_ n4_ n5_ n6_ n7_
         (try clear hb)
         (try clear hb2)
         (try clear hk)
         (try clear hi)
         refine hK.out _ _ ⟨(blk_cell BK101.out 0).trans rfl, (blk_cell BK101.out 1).trans rfl, (blk_cell BK101.out 2).trans rfl, (blk_cell BK102.out 0).trans rfl, (blk_cell BK102.out 1).trans rfl, (blk_cell BK102.out 2).trans rfl, (blk_cell BK103.out 0).trans rfl, (blk_cell BK103.out 1).trans rfl, (blk_cell BK103.out 2).trans rfl⟩ (fun hHeld => ?_)
         clear hK K
         refine norm_ (a' := ?_) ?_ ?_
         rotate_left
         ·show Act.put _ (some 52) _ = _
          simp only [Act.put, List.setIfInBounds_toArray, List.set_cons_zero, List.set_cons_succ, i64_w, i32_w]
          rfl
         refine pure_ (i := 9) (N := some 53) (v := ?_) (a' := ?_) #[true, true, true, true, true, true, true, true, true, true] rfl rfl (any_of HT_.out (by kernel_rfl)) (fun _ _ _ h => h) (Or.inl ⟨by rfl, ?_⟩) ?_ ?_
         rotate_left
         ·intro w'
          go_simp
          with_reducible rfl
         rotate_left
         ·simp only [Act.put, List.setIfInBounds_toArray, List.set_cons_zero, List.set_cons_succ, i64_w, i32_w]
          rfl
         refine done_ (done_of HT_.out (by kernel_rfl)) ?_
         have q50 : (x17_2 : Int) ≤ ((t126.length : Int) : Int) := of_decide_eq_true F28_
         obtain ⟨i050, hi050, _, hsz50, _⟩ := info_parts info3
         have hroom50 : t126.length ≤ co48 := (Kd.R_reads' HO_16.out).2.1
         have hC50 : Kd.C (Kd.int .i64) _ Ao48 t126.length t126 := (Kd.R_reads' HO_16.out).2.2
         try clear hcut47
         have hcut50 := cut_to (P := Try.prog) 71 3 .i64 Try.underlying71 hi050 Ao48 t126.length co48 x17_2 (of_decide_eq_true F28_) q50 hroom50
         have hr50 := Kd.C_take (m := (x17_2 : Int).toNat) hC50 (by omega)
         have hy50 : y134.length = (x17_2 : Int).toNat := (by rw [Ny134.out, List.length_take]; omega)
         rw [← Ny134.out] at hr50
         rw [← hy50] at hcut50
         have HR137 := Aside0.mk hr50
         have HC137 := Aside0.mk (show y134.length ≤ co48 from by omega)
         clear hr50 hC50 hroom50 hi050 hsz50
         have KY50 := Aside0.mk hy50
         clear hy50
         have KL50 := Aside0.mk (show (x17_2 : Int).toNat ≤ t126.length from by omega)
         replace q50 := eq_true q50
         try go_wp2_with (first | ((with_reducible refine gate_callee (f := 106) rfl ?_); refine goesL_ (some 64) rfl rfl Try.func106 (by kernel_rfl) rfl #[.slice Ao48 y134.length co48] rfl F7_ ?_; (with_reducible refine (slices_Clone_int_int.calls _ _ y134 t138 _ ?side1 ?side2 A45.out).mono ?_); (case side1 => repeat (first | exact (by repeat (first | (with_reducible exact HR137.out) | (with_reducible refine Kd.C_alloc ?_ _) | (with_reducible refine Kd.C_drewN ?_ _) | (with_reducible refine Kd.C_drew ?_) | exact HR137.out)) | (with_reducible refine Kd.C_alloc ?_ _) | (with_reducible refine Kd.C_drewN ?_ _) | (with_reducible refine Kd.C_drew ?_))); (case side2 => exact HC137.out); rintro e w51 ⟨v139, rfl, ho0, hb⟩; refine ⟨_, rfl, ?_⟩; have n0_ := Aside0.mk (Kd.R_elder' F29_ (Kd.R_base ho0) hb); have n1_ := Aside0.mk (Kd.R_lower (Kd.R_new' ho0 (Kd.R_lt F29_)) (below_size F1_)); have n2_ := Aside0.mk (blk_below (g := gb101) (o := .cells #[.slice A0_0 l0_0.length c0_0, .slice A0_1 l0_1.length c0_1, .slice A0_2 l0_2.length c0_2] 96 (0, 0)) F3_ hb); have n3_ := Aside0.mk (blk_below (g := gb102) (o := .cells #[.slice A1_0 l1_0.length c1_0, .int .i64 a1_1, .int .i64 a1_2] 99 (0, 0)) F5_ hb); have n4_ := Aside0.mk (blk_below (g := gb103) (o := .cells #[.slice A2_0 l2_0.length c2_0, .int .i64 a2_1, .int .i64 a2_2] 26 (0, 0)) F6_ hb); have n5_ := Aside0.mk (blk_below (g := gb113) (o := .cells #[.int .i64 t104, .int .i64 t105, .int .i64 t106, .int .u64 t107, .int .u64 t108, .int .u64 t109, .int .u64 t110, .int .i64 t111] 70 (0, 0)) F9_ hb); have n6_ := Aside0.mk (blk_below (g := gb125) (o := .cells #[.int .i64 t114, .int .i64 t115, .int .u64 t116, .int .u64 t117, .int .u64 t118, .int .u64 t119, .int .u64 t120, .int .u64 t121, .int .u64 t122, .int .u64 t123] 150 (0, 0)) F14_ hb); have n7_ := Aside0.mk (Kd.C_below F15_ hb); have n8_ := Aside0.mk (Kd.C_below (by repeat (first | (with_reducible exact HR137.out) | (with_reducible refine Kd.C_alloc ?_ _) | (with_reducible refine Kd.C_drewN ?_ _) | (with_reducible refine Kd.C_drew ?_) | exact HR137.out)) hb); have n9_ := Aside0.mk (below_step F1_ hb); clear HO_16; clear BK101; clear BK102; clear BK103; clear BK113; clear BK125; clear HR132; clear HR137; clear HB; have HO_16 := n0_; have HO140 := n1_; have BK101 := n2_; have BK102 := n3_; have BK103 := n4_; have BK113 := n5_; have BK125 := n6_; have HR132 := n7_; have HR137 := n8_; have HB := n9_; clear n0_ n1_ n2_ n3_ n4_ n5_ n6_ n7_ n8_ n9_; (try clear hb); (try clear hb2); (try clear hk); (try clear hi); (try clear ho0)))
         go_loopg [18, 19] k2 (fun kq v18 v19 w' => ∃ (x18_3 : List Int) (x19_3 : Int), v19 = .int .i64 x19_3 ∧ Aside0 (victim_Choose.l1 kq a3 a4 x18_3 x19_3 l0_0 l0_1 l0_2 l1_0 a1_1 a1_2 l2_0 a2_1 a2_2 = some (r1, r2)) ∧ Aside0 (kq ≤ k2) ∧ Aside0 (Kd.R (Kd.int .i64) 3 w' w.heap.size (fun _ => True) v18 x18_3) ∧ Aside0 (w'.heap[gb101]? = some (.cells #[(.slice A0_0 l0_0.length c0_0), (.slice A0_1 l0_1.length c0_1), (.slice A0_2 l0_2.length c0_2)] 96 (0, 0))) ∧ Aside0 (w'.heap[gb102]? = some (.cells #[(.slice A1_0 l1_0.length c1_0), .int .i64 a1_1, .int .i64 a1_2] 99 (0, 0))) ∧ Aside0 (w'.heap[gb103]? = some (.cells #[(.slice A2_0 l2_0.length c2_0), .int .i64 a2_1, .int .i64 a2_2] 26 (0, 0))) ∧ Aside0 (w'.heap[gb113]? = some (.cells #[.int .i64 t104, .int .i64 t105, .int .i64 t106, .int .u64 t107, .int .u64 t108, .int .u64 t109, .int .u64 t110, .int .i64 t111] 70 (0, 0))) ∧ Aside0 (w'.heap[gb125]? = some (.cells #[.int .i64 t114, .int .i64 t115, .int .u64 t116, .int .u64 t117, .int .u64 t118, .int .u64 t119, .int .u64 t120, .int .u64 t121, .int .u64 t122, .int .u64 t123] 150 (0, 0))) ∧ Aside0 (Below w.heap.size w w'))
         case atStart => exact ⟨(t138), (wrap64 (x17_2 - 1)), F32_, H', ⟨Nat.le_refl _⟩, ⟨by (with_reducible repeat (first | apply Kd.R_alloc | apply Kd.R_drewN | apply Kd.R_drew)); exact Kd.R_mono HO140.out (fun _ hk => trivial)⟩, ⟨F23_⟩, ⟨F24_⟩, ⟨F25_⟩, ⟨F26_⟩, ⟨F27_⟩, ⟨F4_⟩⟩
         case round =>
          clear H'
          try clear c1
          try clear c2
          try clear p2
          try clear c3
          try clear c4
          try clear q4
          try clear q5
          try clear c6
          try clear p6
          try clear c8
          try clear c10
          try clear c12
          try clear c13
          try clear c17
          try clear c18
          try clear c19
          try clear c21
          try clear c25
          try clear c26
          try clear c27
          try clear c28
          try clear c30
          try clear c31
          try clear c33
          try clear c34
          try clear c35
          try clear c36
          try clear c39
          try clear c39b0
          try clear c39b1
          try clear c40
          try clear c40b0
          try clear c40b1
          try clear c42
          try clear c43
          try clear c43b0
          try clear c44
          try clear c44b0
          try clear q47
          try clear c48
          try clear q50
          try clear hcz14_0
          try clear hcz14_1
          try clear hcz14_2
          try clear hcz20_0
          try clear hcz20_1
          try clear hcz20_2
          try clear hcz20_3
          try clear hcz20_4
          try clear hcz20_5
          try clear hcz20_6
          try clear hcz20_7
          try clear hcz22_0
          try clear hcz22_1
          try clear hcz22_2
          try clear hcz29_0
          try clear hcz29_1
          try clear hcz29_2
          try clear hcz29_3
          try clear hcz29_4
          try clear hcz29_5
          try clear hcz29_6
          try clear hcz29_7
          try clear hcz29_8
          try clear hcz29_9
          try clear hcz37_0
          try clear hcz37_1
          try clear hcz37_2
          try clear hfz14_0
          try clear hfz14_1
          try clear hfz14_2
          try clear hfz20_0
          try clear hfz20_1
          try clear hfz20_2
          try clear hfz20_3
          try clear hfz20_4
          try clear hfz20_5
          try clear hfz20_6
          try clear hfz20_7
          try clear hfz22_0
          try clear hfz22_1
          try clear hfz22_2
          try clear hfz29_0
          try clear hfz29_1
          try clear hfz29_2
          try clear hfz29_3
          try clear hfz29_4
          try clear hfz29_5
          try clear hfz29_6
          try clear hfz29_7
          try clear hfz29_8
          try clear hfz29_9
          try clear hfz37_0
          try clear hfz37_1
          try clear hfz37_2
          try clear p2
          try clear q47
          try clear q50
          obtain ⟨x18_3, x19_3, rfl, HA, HK3, HO_18, BK101, BK102, BK103, BK113, BK125, HB⟩ := hrel
          cases gk with
          | zero => exact absurd HA.out (by simp [victim_Choose.l1])
          | succ k3 =>
           have H := HA.out
           clear HA
           simp only [victim_Choose.l1] at H
           by_cases c52 : x19_3 ≥ 0
           ·rw [if_pos c52] at H
            have c52b0 : decide (0 ≤ x19_3) = true := decide_eq_true c52
            clear c52
            replace H := Option.bind_eq_some_iff.mp H
            obtain ⟨t141, A530, H⟩ := H
            replace H : ((slices_Delete_int_int.f t141 x19_3 (wrap64 (x19_3 + 1))).bind fun t144 => ((victim_Makes.f k3 l0_0 l0_1 l0_2 l1_0 a1_1 a1_2 l2_0 a2_1 a2_2 a3 a4 t144).bind fun t147 => (if t147 = true then (victim_Choose.l1 k3 a3 a4 t144 (wrap64 (x19_3 - 1)) l0_0 l0_1 l0_2 l1_0 a1_1 a1_2 l2_0 a2_1 a2_2) else (victim_Choose.l1 k3 a3 a4 x18_3 (wrap64 (x19_3 - 1)) l0_0 l0_1 l0_2 l1_0 a1_1 a1_2 l2_0 a2_1 a2_2)))) = some (r1, r2) := H
            have A53 := Aside0.mk A530
            clear A530
            replace H := Option.bind_eq_some_iff.mp H
            obtain ⟨t144, A540, H⟩ := H
            replace H : ((victim_Makes.f k3 l0_0 l0_1 l0_2 l1_0 a1_1 a1_2 l2_0 a2_1 a2_2 a3 a4 t144).bind fun t147 => (if t147 = true then (victim_Choose.l1 k3 a3 a4 t144 (wrap64 (x19_3 - 1)) l0_0 l0_1 l0_2 l1_0 a1_1 a1_2 l2_0 a2_1 a2_2) else (victim_Choose.l1 k3 a3 a4 x18_3 (wrap64 (x19_3 - 1)) l0_0 l0_1 l0_2 l1_0 a1_1 a1_2 l2_0 a2_1 a2_2))) = some (r1, r2) := H
            have A54 := Aside0.mk A540
            clear A540
            replace H := Option.bind_eq_some_iff.mp H
            obtain ⟨t147, A550, H⟩ := H
            replace H : (if t147 = true then (victim_Choose.l1 k3 a3 a4 t144 (wrap64 (x19_3 - 1)) l0_0 l0_1 l0_2 l1_0 a1_1 a1_2 l2_0 a2_1 a2_2) else (victim_Choose.l1 k3 a3 a4 x18_3 (wrap64 (x19_3 - 1)) l0_0 l0_1 l0_2 l1_0 a1_1 a1_2 l2_0 a2_1 a2_2)) = some (r1, r2) := H
            have A55 := Aside0.mk A550
            clear A550
            by_cases c56 : t147 = true
            ·subst c56
             have H1 : (victim_Choose.l1 k3 a3 a4 t144 (wrap64 (x19_3 - 1)) l0_0 l0_1 l0_2 l1_0 a1_1 a1_2 l2_0 a2_1 a2_2) = some (r1, r2) := by rw [if_pos rfl] at H; exact H
             clear H
             have H := H1
             clear H1
             have H' := Aside0.mk H
             clear H
             obtain ⟨Ao57, co57, eo57⟩ := Kd.R_slice HO_18.out
             subst eo57
             go_wp2_with (first | ((with_reducible refine gate_callee (f := 106) rfl ?_); refine goesL_ (some 72) rfl rfl Try.func106 (by kernel_rfl) rfl #[.slice Ao57 x18_3.length co57] rfl F7_ ?_; (with_reducible refine (slices_Clone_int_int.calls _ _ x18_3 t141 _ ?side1 ?side2 A53.out).mono ?_); (case side1 => repeat (first | exact (Kd.R_reads' HO_18.out).2.2 | (with_reducible refine Kd.C_alloc ?_ _) | (with_reducible refine Kd.C_drewN ?_ _) | (with_reducible refine Kd.C_drew ?_))); (case side2 => exact (Kd.R_reads' HO_18.out).2.1); rintro e w58 ⟨v142, rfl, ho0, hb⟩; refine ⟨_, rfl, ?_⟩; have n0_ := Aside0.mk (Kd.R_elder' F17_ (Kd.R_base ho0) hb); have n1_ := Aside0.mk (Kd.R_lower (Kd.R_new' ho0 (Kd.R_lt F17_)) (below_size F1_)); have n2_ := Aside0.mk (blk_below (g := gb101) (o := .cells #[.slice A0_0 l0_0.length c0_0, .slice A0_1 l0_1.length c0_1, .slice A0_2 l0_2.length c0_2] 96 (0, 0)) F3_ hb); have n3_ := Aside0.mk (blk_below (g := gb102) (o := .cells #[.slice A1_0 l1_0.length c1_0, .int .i64 a1_1, .int .i64 a1_2] 99 (0, 0)) F5_ hb); have n4_ := Aside0.mk (blk_below (g := gb103) (o := .cells #[.slice A2_0 l2_0.length c2_0, .int .i64 a2_1, .int .i64 a2_2] 26 (0, 0)) F6_ hb); have n5_ := Aside0.mk (blk_below (g := gb113) (o := .cells #[.int .i64 t104, .int .i64 t105, .int .i64 t106, .int .u64 t107, .int .u64 t108, .int .u64 t109, .int .u64 t110, .int .i64 t111] 70 (0, 0)) F9_ hb); have n6_ := Aside0.mk (blk_below (g := gb125) (o := .cells #[.int .i64 t114, .int .i64 t115, .int .u64 t116, .int .u64 t117, .int .u64 t118, .int .u64 t119, .int .u64 t120, .int .u64 t121, .int .u64 t122, .int .u64 t123] 150 (0, 0)) F14_ hb); have n7_ := Aside0.mk (below_step F1_ hb); clear HO_18; clear BK101; clear BK102; clear BK103; clear BK113; clear BK125; clear HB; have HO_18 := n0_; have HO143 := n1_; have BK101 := n2_; have BK102 := n3_; have BK103 := n4_; have BK113 := n5_; have BK125 := n6_; have HB := n7_; clear n0_ n1_ n2_ n3_ n4_ n5_ n6_ n7_; (try clear hb); (try clear hb2); (try clear hk); (try clear hi); (try clear ho0); obtain ⟨Ao59, co59, eo59⟩ := Kd.R_slice HO143.out; subst eo59) | ((with_reducible refine gate_callee (f := 107) rfl ?_); refine goesL_ (some 76) rfl rfl Try.func107 (by kernel_rfl) rfl #[.slice Ao59 t141.length co59, .int .i64 x19_3, .int .i64 (wrap64 (x19_3 + 1))] rfl F7_ ?_; (with_reducible refine (slices_Delete_int_int.calls (fun k_ => some k_ = (.slice Ao59 t141.length co59 : Value).ownBlock) (.slice Ao59 t141.length co59) t141 x19_3 (wrap64 (x19_3 + 1)) t144 w _ ?side1 ?side2 A54.out).mono ?_); (case side1 => exact F34_); (case side2 => exact Kd.R_tight rfl HO143.out); rintro e w60 ⟨v145, rfl, ho0, hb, hkp⟩; refine ⟨_, rfl, ?_⟩; have n0_ := Aside0.mk (Kd.R_mono (ok' := fun k_ => some k_ ≠ (v145 : Value).ownBlock) (Kd.R_keptB (HO_18.out) hkp (fun k_ hk_ hs_ => (hk_.2) hs_)) (fun k_ hk_ => fun e_ => Or.elim (ho0.1 k_ e_.symm) (fun hs_ => hk_.2.1 hs_) (fun hn_ => Nat.not_le.2 hk_.2.2 hn_))); have n1_ := Aside0.mk (blk_kept F3_ hkp (fun hs_ => (fun e_ => (Kd.R_ne HO143.out BK101.out (by decide)) e_) hs_)); have n2_ := Aside0.mk (blk_kept F5_ hkp (fun hs_ => (fun e_ => (Kd.R_ne HO143.out BK102.out (by decide)) e_) hs_)); have n3_ := Aside0.mk (blk_kept F6_ hkp (fun hs_ => (fun e_ => (Kd.R_ne HO143.out BK103.out (by decide)) e_) hs_)); have n4_ := Aside0.mk (blk_kept F9_ hkp (fun hs_ => (fun e_ => (Kd.R_ne HO143.out BK113.out (by decide)) e_) hs_)); have n5_ := Aside0.mk (blk_kept F14_ hkp (fun hs_ => (fun e_ => (Kd.R_ne HO143.out BK125.out (by decide)) e_) hs_)); have n6_ := Aside0.mk (Kd.R_mono (ok' := fun k_ => some k_ ≠ (.slice Ao57 x18_3.length co57 : Value).ownBlock) ho0 (fun k_ hk_ => Or.elim hk_ (fun hs_ => fun e_ => (((HO_18.out).1 k_ e_.symm).2) hs_) (fun hn_ => (Kd.fresh' (Kd.R_lt F17_) k_ hn_)))); have n7_ := Aside0.mk (hb); clear HO_18; clear BK101; clear BK102; clear BK103; clear BK113; clear BK125; clear HB; clear HO143; have HO_18 := n0_; have BK101 := n1_; have BK102 := n2_; have BK103 := n3_; have BK113 := n4_; have BK125 := n5_; have HO146 := n6_; have HB := n7_; clear n0_ n1_ n2_ n3_ n4_ n5_ n6_ n7_; (try clear hb); (try clear hkp); (try clear ho0); have hnb61 := NB101_102.out; have hnc61 := NB102_101.out; have hnb62 := NB101_103.out; have hnc62 := NB103_101.out; have hnb63 := NB101_113.out; have hnc63 := NB113_101.out; have hnb64 := NB101_125.out; have hnc64 := NB125_101.out; have hcz65_0 : w60.cell? ⟨gb101, 0, none⟩ = some (.slice A0_0 l0_0.length c0_0) := (blk_cell BK101.out 0).trans rfl; have hcz65_1 : w60.cell? ⟨gb101, 1, none⟩ = some (.slice A0_1 l0_1.length c0_1) := (blk_cell BK101.out 1).trans rfl; have hcz65_2 : w60.cell? ⟨gb101, 2, none⟩ = some (.slice A0_2 l0_2.length c0_2) := (blk_cell BK101.out 2).trans rfl; have hfz65_0 := blk_frozen BK101.out 0; have hfz65_1 := blk_frozen BK101.out 1; have hfz65_2 := blk_frozen BK101.out 2; have hnb66 := NB102_103.out; have hnc66 := NB103_102.out; have hnb67 := NB102_113.out; have hnc67 := NB113_102.out; have hnb68 := NB102_125.out; have hnc68 := NB125_102.out; have hcz69_0 : w60.cell? ⟨gb102, 0, none⟩ = some (.slice A1_0 l1_0.length c1_0) := (blk_cell BK102.out 0).trans rfl; have hcz69_1 : w60.cell? ⟨gb102, 1, none⟩ = some (.int .i64 a1_1) := (blk_cell BK102.out 1).trans rfl; have hcz69_2 : w60.cell? ⟨gb102, 2, none⟩ = some (.int .i64 a1_2) := (blk_cell BK102.out 2).trans rfl; have hfz69_0 := blk_frozen BK102.out 0; have hfz69_1 := blk_frozen BK102.out 1; have hfz69_2 := blk_frozen BK102.out 2; have hnb70 := NB103_113.out; have hnc70 := NB113_103.out; have hnb71 := NB103_125.out; have hnc71 := NB125_103.out; have hcz72_0 : w60.cell? ⟨gb103, 0, none⟩ = some (.slice A2_0 l2_0.length c2_0) := (blk_cell BK103.out 0).trans rfl; have hcz72_1 : w60.cell? ⟨gb103, 1, none⟩ = some (.int .i64 a2_1) := (blk_cell BK103.out 1).trans rfl; have hcz72_2 : w60.cell? ⟨gb103, 2, none⟩ = some (.int .i64 a2_2) := (blk_cell BK103.out 2).trans rfl; have hfz72_0 := blk_frozen BK103.out 0; have hfz72_1 := blk_frozen BK103.out 1; have hfz72_2 := blk_frozen BK103.out 2; obtain ⟨Ao73, co73, eo73⟩ := Kd.R_slice HO146.out; subst eo73) | ((with_reducible refine gate_callee (f := 62) rfl ?_); refine goesL_ (some 83) rfl rfl Try.func62 (by kernel_rfl) rfl #[.agg #[.slice A0_0 l0_0.length c0_0, .slice A0_1 l0_1.length c0_1, .slice A0_2 l0_2.length c0_2], .agg #[.slice A1_0 l1_0.length c1_0, .int .i64 a1_1, .int .i64 a1_2], .agg #[.slice A2_0 l2_0.length c2_0, .int .i64 a2_1, .int .i64 a2_2], .int .i64 a3, .int .i64 a4, .slice Ao73 t144.length co73] rfl F7_ ?_; (with_reducible refine (victim_Makes.calls k3 _ _ l0_0 _ _ l0_1 _ _ l0_2 _ _ l1_0 a1_1 a1_2 _ _ l2_0 a2_1 a2_2 a3 a4 _ _ t144 true _ ?side1 ?side2 ?side3 ?side4 ?side5 ?side6 ?side7 ?side8 ?side9 ?side10 ?side11 ?side12 A55.out).mono ?_); (case side1 => exact F18_); (case side2 => exact HC0_0.out); (case side3 => exact F19_); (case side4 => exact HC0_1.out); (case side5 => exact F20_); (case side6 => exact HC0_2.out); (case side7 => exact F21_); (case side8 => exact HC1_0.out); (case side9 => exact F16_); (case side10 => exact HC2_0.out); (case side11 => repeat (first | exact (Kd.R_reads' HO146.out).2.2 | (with_reducible refine Kd.C_alloc ?_ _) | (with_reducible refine Kd.C_drewN ?_ _) | (with_reducible refine Kd.C_drew ?_))); (case side12 => exact (Kd.R_reads' HO146.out).2.1); rintro e w74 ⟨rfl, hb⟩; refine ⟨_, rfl, ?_⟩; have n0_ := Aside0.mk (Kd.R_below F17_ hb); have n1_ := Aside0.mk (Kd.R_below (by (with_reducible repeat (first | apply Kd.R_alloc | apply Kd.R_drewN | apply Kd.R_drew)); exact HO146.out) hb); have n2_ := Aside0.mk (blk_below (g := gb101) (o := .cells #[.slice A0_0 l0_0.length c0_0, .slice A0_1 l0_1.length c0_1, .slice A0_2 l0_2.length c0_2] 96 (0, 0)) F3_ hb); have n3_ := Aside0.mk (blk_below (g := gb102) (o := .cells #[.slice A1_0 l1_0.length c1_0, .int .i64 a1_1, .int .i64 a1_2] 99 (0, 0)) F5_ hb); have n4_ := Aside0.mk (blk_below (g := gb103) (o := .cells #[.slice A2_0 l2_0.length c2_0, .int .i64 a2_1, .int .i64 a2_2] 26 (0, 0)) F6_ hb); have n5_ := Aside0.mk (blk_below (g := gb113) (o := .cells #[.int .i64 t104, .int .i64 t105, .int .i64 t106, .int .u64 t107, .int .u64 t108, .int .u64 t109, .int .u64 t110, .int .i64 t111] 70 (0, 0)) F9_ hb); have n6_ := Aside0.mk (blk_below (g := gb125) (o := .cells #[.int .i64 t114, .int .i64 t115, .int .u64 t116, .int .u64 t117, .int .u64 t118, .int .u64 t119, .int .u64 t120, .int .u64 t121, .int .u64 t122, .int .u64 t123] 150 (0, 0)) F14_ hb); have n7_ := Aside0.mk (below_step F1_ hb); clear HO_18; clear HO146; clear BK101; clear BK102; clear BK103; clear BK113; clear BK125; clear HB; have HO_18 := n0_; have HO146 := n1_; have BK101 := n2_; have BK102 := n3_; have BK103 := n4_; have BK113 := n5_; have BK125 := n6_; have HB := n7_; clear n0_ n1_ n2_ n3_ n4_ n5_ n6_ n7_; (try clear hb); (try clear hb2); (try clear hk); (try clear hi)))
             go_roundg k3
             case measure => have := HJ7.out; have := HK2.out; have := HK3.out; omega
             case rel => exact ⟨(t144), (wrap64 (x19_3 - 1)), F32_, H', ⟨by have := HJ7.out; have := HK2.out; have := HK3.out; omega⟩, ⟨by (with_reducible repeat (first | apply Kd.R_alloc | apply Kd.R_drewN | apply Kd.R_drew)); exact Kd.R_mono HO146.out (fun _ hk => trivial)⟩, ⟨F23_⟩, ⟨F24_⟩, ⟨F25_⟩, ⟨F26_⟩, ⟨F27_⟩, ⟨F4_⟩⟩
            ·replace c56 := Bool.eq_false_iff.mpr c56
             subst c56
             have H1 : (victim_Choose.l1 k3 a3 a4 x18_3 (wrap64 (x19_3 - 1)) l0_0 l0_1 l0_2 l1_0 a1_1 a1_2 l2_0 a2_1 a2_2) = some (r1, r2) := by rw [if_neg (show ¬ (false = true) by decide)] at H; exact H
             clear H
             have H := H1
             clear H1
             have H' := Aside0.mk H
             clear H
             obtain ⟨Ao75, co75, eo75⟩ := Kd.R_slice HO_18.out
             subst eo75
             go_wp2_with (first | ((with_reducible refine gate_callee (f := 106) rfl ?_); refine goesL_ (some 72) rfl rfl Try.func106 (by kernel_rfl) rfl #[.slice Ao75 x18_3.length co75] rfl F7_ ?_; (with_reducible refine (slices_Clone_int_int.calls _ _ x18_3 t141 _ ?side1 ?side2 A53.out).mono ?_); (case side1 => repeat (first | exact (Kd.R_reads' HO_18.out).2.2 | (with_reducible refine Kd.C_alloc ?_ _) | (with_reducible refine Kd.C_drewN ?_ _) | (with_reducible refine Kd.C_drew ?_))); (case side2 => exact (Kd.R_reads' HO_18.out).2.1); rintro e w76 ⟨v142, rfl, ho0, hb⟩; refine ⟨_, rfl, ?_⟩; have n0_ := Aside0.mk (Kd.R_elder' F17_ (Kd.R_base ho0) hb); have n1_ := Aside0.mk (Kd.R_lower (Kd.R_new' ho0 (Kd.R_lt F17_)) (below_size F1_)); have n2_ := Aside0.mk (blk_below (g := gb101) (o := .cells #[.slice A0_0 l0_0.length c0_0, .slice A0_1 l0_1.length c0_1, .slice A0_2 l0_2.length c0_2] 96 (0, 0)) F3_ hb); have n3_ := Aside0.mk (blk_below (g := gb102) (o := .cells #[.slice A1_0 l1_0.length c1_0, .int .i64 a1_1, .int .i64 a1_2] 99 (0, 0)) F5_ hb); have n4_ := Aside0.mk (blk_below (g := gb103) (o := .cells #[.slice A2_0 l2_0.length c2_0, .int .i64 a2_1, .int .i64 a2_2] 26 (0, 0)) F6_ hb); have n5_ := Aside0.mk (blk_below (g := gb113) (o := .cells #[.int .i64 t104, .int .i64 t105, .int .i64 t106, .int .u64 t107, .int .u64 t108, .int .u64 t109, .int .u64 t110, .int .i64 t111] 70 (0, 0)) F9_ hb); have n6_ := Aside0.mk (blk_below (g := gb125) (o := .cells #[.int .i64 t114, .int .i64 t115, .int .u64 t116, .int .u64 t117, .int .u64 t118, .int .u64 t119, .int .u64 t120, .int .u64 t121, .int .u64 t122, .int .u64 t123] 150 (0, 0)) F14_ hb); have n7_ := Aside0.mk (below_step F1_ hb); clear HO_18; clear BK101; clear BK102; clear BK103; clear BK113; clear BK125; clear HB; have HO_18 := n0_; have HO143 := n1_; have BK101 := n2_; have BK102 := n3_; have BK103 := n4_; have BK113 := n5_; have BK125 := n6_; have HB := n7_; clear n0_ n1_ n2_ n3_ n4_ n5_ n6_ n7_; (try clear hb); (try clear hb2); (try clear hk); (try clear hi); (try clear ho0); obtain ⟨Ao77, co77, eo77⟩ := Kd.R_slice HO143.out; subst eo77) | ((with_reducible refine gate_callee (f := 107) rfl ?_); refine goesL_ (some 76) rfl rfl Try.func107 (by kernel_rfl) rfl #[.slice Ao77 t141.length co77, .int .i64 x19_3, .int .i64 (wrap64 (x19_3 + 1))] rfl F7_ ?_; (with_reducible refine (slices_Delete_int_int.calls (fun k_ => some k_ = (.slice Ao77 t141.length co77 : Value).ownBlock) (.slice Ao77 t141.length co77) t141 x19_3 (wrap64 (x19_3 + 1)) t144 w _ ?side1 ?side2 A54.out).mono ?_); (case side1 => exact F34_); (case side2 => exact Kd.R_tight rfl HO143.out); rintro e w78 ⟨v145, rfl, ho0, hb, hkp⟩; refine ⟨_, rfl, ?_⟩; have n0_ := Aside0.mk (Kd.R_mono (ok' := fun k_ => some k_ ≠ (v145 : Value).ownBlock) (Kd.R_keptB (HO_18.out) hkp (fun k_ hk_ hs_ => (hk_.2) hs_)) (fun k_ hk_ => fun e_ => Or.elim (ho0.1 k_ e_.symm) (fun hs_ => hk_.2.1 hs_) (fun hn_ => Nat.not_le.2 hk_.2.2 hn_))); have n1_ := Aside0.mk (blk_kept F3_ hkp (fun hs_ => (fun e_ => (Kd.R_ne HO143.out BK101.out (by decide)) e_) hs_)); have n2_ := Aside0.mk (blk_kept F5_ hkp (fun hs_ => (fun e_ => (Kd.R_ne HO143.out BK102.out (by decide)) e_) hs_)); have n3_ := Aside0.mk (blk_kept F6_ hkp (fun hs_ => (fun e_ => (Kd.R_ne HO143.out BK103.out (by decide)) e_) hs_)); have n4_ := Aside0.mk (blk_kept F9_ hkp (fun hs_ => (fun e_ => (Kd.R_ne HO143.out BK113.out (by decide)) e_) hs_)); have n5_ := Aside0.mk (blk_kept F14_ hkp (fun hs_ => (fun e_ => (Kd.R_ne HO143.out BK125.out (by decide)) e_) hs_)); have n6_ := Aside0.mk (Kd.R_mono (ok' := fun k_ => some k_ ≠ (.slice Ao75 x18_3.length co75 : Value).ownBlock) ho0 (fun k_ hk_ => Or.elim hk_ (fun hs_ => fun e_ => (((HO_18.out).1 k_ e_.symm).2) hs_) (fun hn_ => (Kd.fresh' (Kd.R_lt F17_) k_ hn_)))); have n7_ := Aside0.mk (hb); clear HO_18; clear BK101; clear BK102; clear BK103; clear BK113; clear BK125; clear HB; clear HO143; have HO_18 := n0_; have BK101 := n1_; have BK102 := n2_; have BK103 := n3_; have BK113 := n4_; have BK125 := n5_; have HO146 := n6_; have HB := n7_; clear n0_ n1_ n2_ n3_ n4_ n5_ n6_ n7_; (try clear hb); (try clear hkp); (try clear ho0); have hnb79 := NB101_102.out; have hnc79 := NB102_101.out; have hnb80 := NB101_103.out; have hnc80 := NB103_101.out; have hnb81 := NB101_113.out; have hnc81 := NB113_101.out; have hnb82 := NB101_125.out; have hnc82 := NB125_101.out; have hcz83_0 : w78.cell? ⟨gb101, 0, none⟩ = some (.slice A0_0 l0_0.length c0_0) := (blk_cell BK101.out 0).trans rfl; have hcz83_1 : w78.cell? ⟨gb101, 1, none⟩ = some (.slice A0_1 l0_1.length c0_1) := (blk_cell BK101.out 1).trans rfl; have hcz83_2 : w78.cell? ⟨gb101, 2, none⟩ = some (.slice A0_2 l0_2.length c0_2) := (blk_cell BK101.out 2).trans rfl; have hfz83_0 := blk_frozen BK101.out 0; have hfz83_1 := blk_frozen BK101.out 1; have hfz83_2 := blk_frozen BK101.out 2; have hnb84 := NB102_103.out; have hnc84 := NB103_102.out; have hnb85 := NB102_113.out; have hnc85 := NB113_102.out; have hnb86 := NB102_125.out; have hnc86 := NB125_102.out; have hcz87_0 : w78.cell? ⟨gb102, 0, none⟩ = some (.slice A1_0 l1_0.length c1_0) := (blk_cell BK102.out 0).trans rfl; have hcz87_1 : w78.cell? ⟨gb102, 1, none⟩ = some (.int .i64 a1_1) := (blk_cell BK102.out 1).trans rfl; have hcz87_2 : w78.cell? ⟨gb102, 2, none⟩ = some (.int .i64 a1_2) := (blk_cell BK102.out 2).trans rfl; have hfz87_0 := blk_frozen BK102.out 0; have hfz87_1 := blk_frozen BK102.out 1; have hfz87_2 := blk_frozen BK102.out 2; have hnb88 := NB103_113.out; have hnc88 := NB113_103.out; have hnb89 := NB103_125.out; have hnc89 := NB125_103.out; have hcz90_0 : w78.cell? ⟨gb103, 0, none⟩ = some (.slice A2_0 l2_0.length c2_0) := (blk_cell BK103.out 0).trans rfl; have hcz90_1 : w78.cell? ⟨gb103, 1, none⟩ = some (.int .i64 a2_1) := (blk_cell BK103.out 1).trans rfl; have hcz90_2 : w78.cell? ⟨gb103, 2, none⟩ = some (.int .i64 a2_2) := (blk_cell BK103.out 2).trans rfl; have hfz90_0 := blk_frozen BK103.out 0; have hfz90_1 := blk_frozen BK103.out 1; have hfz90_2 := blk_frozen BK103.out 2; obtain ⟨Ao91, co91, eo91⟩ := Kd.R_slice HO146.out; subst eo91) | ((with_reducible refine gate_callee (f := 62) rfl ?_); refine goesL_ (some 83) rfl rfl Try.func62 (by kernel_rfl) rfl #[.agg #[.slice A0_0 l0_0.length c0_0, .slice A0_1 l0_1.length c0_1, .slice A0_2 l0_2.length c0_2], .agg #[.slice A1_0 l1_0.length c1_0, .int .i64 a1_1, .int .i64 a1_2], .agg #[.slice A2_0 l2_0.length c2_0, .int .i64 a2_1, .int .i64 a2_2], .int .i64 a3, .int .i64 a4, .slice Ao91 t144.length co91] rfl F7_ ?_; (with_reducible refine (victim_Makes.calls k3 _ _ l0_0 _ _ l0_1 _ _ l0_2 _ _ l1_0 a1_1 a1_2 _ _ l2_0 a2_1 a2_2 a3 a4 _ _ t144 false _ ?side1 ?side2 ?side3 ?side4 ?side5 ?side6 ?side7 ?side8 ?side9 ?side10 ?side11 ?side12 A55.out).mono ?_); (case side1 => exact F18_); (case side2 => exact HC0_0.out); (case side3 => exact F19_); (case side4 => exact HC0_1.out); (case side5 => exact F20_); (case side6 => exact HC0_2.out); (case side7 => exact F21_); (case side8 => exact HC1_0.out); (case side9 => exact F16_); (case side10 => exact HC2_0.out); (case side11 => repeat (first | exact (Kd.R_reads' HO146.out).2.2 | (with_reducible refine Kd.C_alloc ?_ _) | (with_reducible refine Kd.C_drewN ?_ _) | (with_reducible refine Kd.C_drew ?_))); (case side12 => exact (Kd.R_reads' HO146.out).2.1); rintro e w92 ⟨rfl, hb⟩; refine ⟨_, rfl, ?_⟩; have n0_ := Aside0.mk (Kd.R_below F17_ hb); have n1_ := Aside0.mk (Kd.R_below (by (with_reducible repeat (first | apply Kd.R_alloc | apply Kd.R_drewN | apply Kd.R_drew)); exact HO146.out) hb); have n2_ := Aside0.mk (blk_below (g := gb101) (o := .cells #[.slice A0_0 l0_0.length c0_0, .slice A0_1 l0_1.length c0_1, .slice A0_2 l0_2.length c0_2] 96 (0, 0)) F3_ hb); have n3_ := Aside0.mk (blk_below (g := gb102) (o := .cells #[.slice A1_0 l1_0.length c1_0, .int .i64 a1_1, .int .i64 a1_2] 99 (0, 0)) F5_ hb); have n4_ := Aside0.mk (blk_below (g := gb103) (o := .cells #[.slice A2_0 l2_0.length c2_0, .int .i64 a2_1, .int .i64 a2_2] 26 (0, 0)) F6_ hb); have n5_ := Aside0.mk (blk_below (g := gb113) (o := .cells #[.int .i64 t104, .int .i64 t105, .int .i64 t106, .int .u64 t107, .int .u64 t108, .int .u64 t109, .int .u64 t110, .int .i64 t111] 70 (0, 0)) F9_ hb); have n6_ := Aside0.mk (blk_below (g := gb125) (o := .cells #[.int .i64 t114, .int .i64 t115, .int .u64 t116, .int .u64 t117, .int .u64 t118, .int .u64 t119, .int .u64 t120, .int .u64 t121, .int .u64 t122, .int .u64 t123] 150 (0, 0)) F14_ hb); have n7_ := Aside0.mk (below_step F1_ hb); clear HO_18; clear HO146; clear BK101; clear BK102; clear BK103; clear BK113; clear BK125; clear HB; have HO_18 := n0_; have HO146 := n1_; have BK101 := n2_; have BK102 := n3_; have BK103 := n4_; have BK113 := n5_; have BK125 := n6_; have HB := n7_; clear n0_ n1_ n2_ n3_ n4_ n5_ n6_ n7_; (try clear hb); (try clear hb2); (try clear hk); (try clear hi)))
             go_roundg k3
             case measure => have := HJ7.out; have := HK2.out; have := HK3.out; omega
             case rel => exact ⟨(x18_3), (wrap64 (x19_3 - 1)), F32_, H', ⟨by have := HJ7.out; have := HK2.out; have := HK3.out; omega⟩, ⟨by (with_reducible repeat (first | apply Kd.R_alloc | apply Kd.R_drewN | apply Kd.R_drew)); exact Kd.R_mono HO_18.out (fun _ hk => trivial)⟩, ⟨F23_⟩, ⟨F24_⟩, ⟨F25_⟩, ⟨F26_⟩, ⟨F27_⟩, ⟨F4_⟩⟩
           ·rw [if_neg c52] at H
            have c52b0 : decide (0 ≤ x19_3) = false := decide_eq_false c52
            clear c52
            simp only [Option.some.injEq, Prod.mk.injEq] at H
            obtain ⟨rfl, rfl⟩ := H
            go_wp2
            go_ret2
            exact ⟨_, by first | rfl | (simp [errW_none, errW_some] <;> rfl) | (simp [*, errW_none, errW_some] <;> rfl), by (with_reducible repeat (first | apply Kd.R_alloc | apply Kd.R_drewN | apply Kd.R_drew)); exact HO_18.out, F4_⟩
        ·replace c42 := Bool.eq_false_iff.mpr c42
         subst c42
         have H1 : (if x17_2 = (t126.length : Int) then (some (([] : List Int), some 9)) else (victim_Choose.l0 k2 a3 a4 t126 (wrap64 (x17_2 + 1)) l0_0 l0_1 l0_2 l1_0 a1_1 a1_2 l2_0 a2_1 a2_2)) = some (r1, r2) := by rw [if_neg (show ¬ (false = true) by decide)] at H; exact H
         clear H
         have H := H1
         clear H1
         by_cases c93 : x17_2 = (t126.length : Int)
         ·rw [if_pos c93] at H
          have c93b0 : (x17_2 == (t126.length : Int)) = true := beq_iff_eq.mpr c93
          have c93b1 : (x17_2 != (t126.length : Int)) = false := bne_eq_false_iff_eq.mpr c93
          clear c93
          simp only [Option.some.injEq, Prod.mk.injEq] at H
          obtain ⟨rfl, rfl⟩ := H
          try go_wp2
          have n0_ := Aside0.mk (Kd.R_drew HO_16.out)
          have n1_ := Aside0.mk (blk_drew BK101.out)
          have n2_ := Aside0.mk (blk_drew BK102.out)
          have n3_ := Aside0.mk (blk_drew BK103.out)
          have n4_ := Aside0.mk (blk_drew BK113.out)
          have n5_ := Aside0.mk (blk_drew BK125.out)
          have n6_ := Aside0.mk (below_drew1 HB.out)
          clear HO_16
          clear BK101
          clear BK102
          clear BK103
          clear BK113
          clear BK125
          clear HB
          have HO_16 := n0_
          have BK101 := n1_
          have BK102 := n2_
          have BK103 := n3_
          have BK113 := n4_
          have BK125 := n5_
          have HB := n6_
          clear n0_ n1_ n2_ n3_ n4_ n5_ n6_
          obtain ⟨Ao96, co96, eo96⟩ := Kd.R_slice HO_16.out
          (first | subst eo96 | (injection eo96 with f1_ f2_ f3_; have f4_ := f1_.symm; have f5_ := f3_.symm; clear f1_ f2_ f3_; subst f4_; subst f5_))
          have q95 : (x17_2 : Int) ≤ ((t126.length : Int) : Int) := of_decide_eq_true F28_
          obtain ⟨i095, hi095, _, hsz95, _⟩ := info_parts info3
          have hroom95 : t126.length ≤ co96 := (Kd.R_reads' HO_16.out).2.1
          have hC95 : Kd.C (Kd.int .i64) _ Ao96 t126.length t126 := (Kd.R_reads' HO_16.out).2.2
          try clear hcut50
          have hcut95 := cut_to (P := Try.prog) 71 3 .i64 Try.underlying71 hi095 Ao96 t126.length co96 x17_2 (of_decide_eq_true F28_) q95 hroom95
          have hr95 := Kd.C_take (m := (x17_2 : Int).toNat) hC95 (by omega)
          have hy95 : y129.length = (x17_2 : Int).toNat := (by rw [Ny129.out, List.length_take]; omega)
          rw [← Ny129.out] at hr95
          rw [← hy95] at hcut95
          have HR132 := Aside0.mk hr95
          have HC132 := Aside0.mk (show y129.length ≤ co96 from by omega)
          clear hr95 hC95 hroom95 hi095 hsz95
          have KY95 := Aside0.mk hy95
          clear hy95
          have KL95 := Aside0.mk (show (x17_2 : Int).toNat ≤ t126.length from by omega)
          replace q95 := eq_true q95
          refine start_ (n := 10) (S := fun w' => w'.cell? ⟨gb101, 0, none⟩ = some (.slice A0_0 l0_0.length c0_0) ∧ w'.cell? ⟨gb101, 1, none⟩ = some (.slice A0_1 l0_1.length c0_1) ∧ w'.cell? ⟨gb101, 2, none⟩ = some (.slice A0_2 l0_2.length c0_2) ∧ w'.cell? ⟨gb102, 0, none⟩ = some (.slice A1_0 l1_0.length c1_0) ∧ w'.cell? ⟨gb102, 1, none⟩ = some (.int .i64 a1_1) ∧ w'.cell? ⟨gb102, 2, none⟩ = some (.int .i64 a1_2) ∧ w'.cell? ⟨gb103, 0, none⟩ = some (.slice A2_0 l2_0.length c2_0) ∧ w'.cell? ⟨gb103, 1, none⟩ = some (.int .i64 a2_1) ∧ w'.cell? ⟨gb103, 2, none⟩ = some (.int .i64 a2_2)) (ds := []) #[false, false, false, false, false, false, false, false, false, false] (by kernel_rfl) rfl rfl ⟨(blk_cell BK101.out 0).trans rfl, (blk_cell BK101.out 1).trans rfl, (blk_cell BK101.out 2).trans rfl, (blk_cell BK102.out 0).trans rfl, (blk_cell BK102.out 1).trans rfl, (blk_cell BK102.out 2).trans rfl, (blk_cell BK103.out 0).trans rfl, (blk_cell BK103.out 1).trans rfl, (blk_cell BK103.out 2).trans rfl⟩ (fun hHeld => ?_); refine with_tabW victim_Choose.tab7 victim_Choose.bits7 (fun HT_ HW_ => ?_)
          generalize wr.drew = w94 at HO_16 BK101 BK102 BK103 BK113 BK125 HB HR132 hHeld ⊢
          refine pure_ (i := 3) (N := some 47) (v := ?_) (a' := ?_) #[false, false, false, true, false, false, false, false, false, false] rfl rfl (any_of HT_.out (by kernel_rfl)) (fun _ _ _ h => h) (Or.inl ⟨by rfl, ?_⟩) ?_ ?_
          rotate_left
          ·intro w'
           go_simp
           with_reducible rfl
          rotate_left
          ·simp only [Act.put, List.setIfInBounds_toArray, List.set_cons_zero, List.set_cons_succ, i64_w, i32_w]
           rfl
          refine pure_ (i := 4) (N := some 48) (v := ?_) (a' := ?_) #[false, false, false, true, true, false, false, false, false, false] rfl rfl (any_of HT_.out (by kernel_rfl)) (fun _ _ _ h => h) (Or.inl ⟨by rfl, ?_⟩) ?_ ?_
          rotate_left
          ·intro w'
           go_simp
           with_reducible rfl
          rotate_left
          ·simp only [Act.put, List.setIfInBounds_toArray, List.set_cons_zero, List.set_cons_succ, i64_w, i32_w]
           rfl
          refine pure_ (i := 5) (N := some 49) (v := ?_) (a' := ?_) #[false, false, false, true, true, true, false, false, false, false] rfl rfl (any_of HT_.out (by kernel_rfl)) (fun _ _ _ h => h) (Or.inl ⟨by rfl, ?_⟩) ?_ ?_
          rotate_left
          ·intro w'
           go_simp
           with_reducible rfl
          rotate_left
          ·simp only [Act.put, List.setIfInBounds_toArray, List.set_cons_zero, List.set_cons_succ, i64_w, i32_w]
           rfl
          refine pure_ (i := 6) (N := some 50) (v := ?_) (a' := ?_) #[false, false, false, true, true, true, true, false, false, false] rfl rfl (any_of HT_.out (by kernel_rfl)) (fun _ _ _ h => h) (Or.inl ⟨by rfl, ?_⟩) ?_ ?_
          rotate_left
          ·intro w'
           go_simp
           with_reducible rfl
          rotate_left
          ·simp only [Act.put, List.setIfInBounds_toArray, List.set_cons_zero, List.set_cons_succ, i64_w, i32_w]
           rfl
          refine pure_ (i := 7) (N := some 51) (v := ?_) (a' := ?_) #[false, false, false, true, true, true, true, true, false, false] rfl rfl (any_of HT_.out (by kernel_rfl)) (fun _ _ _ h => h) (Or.inl ⟨by rfl, ?_⟩) ?_ ?_
          rotate_left
          ·intro w'
           go_simp
           with_reducible rfl
          rotate_left
          ·simp only [Act.put, List.setIfInBounds_toArray, List.set_cons_zero, List.set_cons_succ, i64_w, i32_w]
           rfl
          refine take_ (i := 0) (N := some 44) (v := ?_) (a' := ?_) #[true, false, false, true, true, true, true, true, false, false] rfl rfl (take_ofW HT_.out HW_.out (by kernel_rfl)) (fun _ _ _ h => h) (Or.inl ⟨by rfl, ?_⟩) hHeld ?_ ?_
          rotate_left
          ·rintro w' ⟨s0, s1, s2, s3, s4, s5, s6, s7, s8⟩
           go_simp
           with_reducible rfl
          rotate_left
          ·simp only [Act.put, List.setIfInBounds_toArray, List.set_cons_zero, List.set_cons_succ, i64_w, i32_w]
           rfl
          refine take_ (i := 1) (N := some 45) (v := ?_) (a' := ?_) #[true, true, false, true, true, true, true, true, false, false] rfl rfl (take_ofW HT_.out HW_.out (by kernel_rfl)) (fun _ _ _ h => h) (Or.inl ⟨by rfl, ?_⟩) hHeld ?_ ?_
          rotate_left
          ·rintro w' ⟨s0, s1, s2, s3, s4, s5, s6, s7, s8⟩
           go_simp
           with_reducible rfl
          rotate_left
          ·simp only [Act.put, List.setIfInBounds_toArray, List.set_cons_zero, List.set_cons_succ, i64_w, i32_w]
           rfl
          refine take_ (i := 2) (N := some 46) (v := ?_) (a' := ?_) #[true, true, true, true, true, true, true, true, false, false] rfl rfl (take_ofW HT_.out HW_.out (by kernel_rfl)) (fun _ _ _ h => h) (Or.inl ⟨by rfl, ?_⟩) hHeld ?_ ?_
          rotate_left
          ·rintro w' ⟨s0, s1, s2, s3, s4, s5, s6, s7, s8⟩
           go_simp
           with_reducible rfl
          rotate_left
          ·simp only [Act.put, List.setIfInBounds_toArray, List.set_cons_zero, List.set_cons_succ, i64_w, i32_w]
           rfl
          refine one_ (i := 8) (N := some 52) #[true, true, true, true, true, true, true, true, true, false] rfl rfl (one_of HT_.out (by kernel_rfl)) (by decide) (fun K hK => ?_)
          refine goes_ Try.func62 (by kernel_rfl) rfl #[.agg #[.slice A0_0 l0_0.length c0_0, .slice A0_1 l0_1.length c0_1, .slice A0_2 l0_2.length c0_2], .agg #[.slice A1_0 l1_0.length c1_0, .int .i64 a1_1, .int .i64 a1_2], .agg #[.slice A2_0 l2_0.length c2_0, .int .i64 a2_1, .int .i64 a2_2], .int .i64 a3, .int .i64 a4, .slice Ao96 y129.length co96] (by rfl) rfl rfl F7_ ?_
          with_reducible refine (victim_Makes.calls k2 _ _ l0_0 _ _ l0_1 _ _ l0_2 _ _ l1_0 a1_1 a1_2 _ _ l2_0 a2_1 a2_2 a3 a4 _ _ y129 false _ ?side1 ?side2 ?side3 ?side4 ?side5 ?side6 ?side7 ?side8 ?side9 ?side10 ?side11 ?side12 A41.out).mono ?_
          (case side1 => exact F18_)
          (case side2 => exact HC0_0.out)
          (case side3 => exact F19_)
          (case side4 => exact HC0_1.out)
          (case side5 => exact F20_)
          (case side6 => exact HC0_2.out)
          (case side7 => exact F21_)
          (case side8 => exact HC1_0.out)
          (case side9 => exact F16_)
          (case side10 => exact HC2_0.out)
          (case side11 => exact F33_)
          (case side12 => exact HC132.out)
          rintro e w97 ⟨rfl, hb⟩
          refine ⟨_, rfl, ?_⟩
          have n0_ := Aside0.mk (Kd.R_below F29_ hb)
          have n1_ := Aside0.mk (blk_below (g := gb101) (o := .cells #[.slice A0_0 l0_0.length c0_0, .slice A0_1 l0_1.length c0_1, .slice A0_2 l0_2.length c0_2] 96 (0, 0)) F3_ hb)
          have n2_ := Aside0.mk (blk_below (g := gb102) (o := .cells #[.slice A1_0 l1_0.length c1_0, .int .i64 a1_1, .int .i64 a1_2] 99 (0, 0)) F5_ hb)
          have n3_ := Aside0.mk (blk_below (g := gb103) (o := .cells #[.slice A2_0 l2_0.length c2_0, .int .i64 a2_1, .int .i64 a2_2] 26 (0, 0)) F6_ hb)
          have n4_ := Aside0.mk (blk_below (g := gb113) (o := .cells #[.int .i64 t104, .int .i64 t105, .int .i64 t106, .int .u64 t107, .int .u64 t108, .int .u64 t109, .int .u64 t110, .int .i64 t111] 70 (0, 0)) F9_ hb)
          have n5_ := Aside0.mk (blk_below (g := gb125) (o := .cells #[.int .i64 t114, .int .i64 t115, .int .u64 t116, .int .u64 t117, .int .u64 t118, .int .u64 t119, .int .u64 t120, .int .u64 t121, .int .u64 t122, .int .u64 t123] 150 (0, 0)) F14_ hb)
          have n6_ := Aside0.mk (Kd.C_below F15_ hb)
          have n7_ := Aside0.mk (below_step F1_ hb)
          clear HO_16
          clear BK101
          clear BK102
          clear BK103
          clear BK113
          clear BK125
          clear HR132
          clear HB
          have HO_16 := n0_
          have BK101 := n1_
          have BK102 := n2_
          have BK103 := n3_
          have BK113 := n4_
          have BK125 := n5_
          have HR132 := n6_
          have HB := n7_
          clear n0_ n1_ n2_ n3_ n4_ n5_ n6_ n7_
          (try clear hb)
          (try clear hb2)
          (try clear hk)
          (try clear hi)
          refine hK.out _ _ ⟨(blk_cell BK101.out 0).trans rfl, (blk_cell BK101.out 1).trans rfl, (blk_cell BK101.out 2).trans rfl, (blk_cell BK102.out 0).trans rfl, (blk_cell BK102.out 1).trans rfl, (blk_cell BK102.out 2).trans rfl, (blk_cell BK103.out 0).trans rfl, (blk_cell BK103.out 1).trans rfl, (blk_cell BK103.out 2).trans rfl⟩ (fun hHeld => ?_)
          clear hK K
          refine norm_ (a' := ?_) ?_ ?_
          rotate_left
          ·show Act.put _ (some 52) _ = _
           simp only [Act.put, List.setIfInBounds_toArray, List.set_cons_zero, List.set_cons_succ, i64_w, i32_w]
           rfl
          refine pure_ (i := 9) (N := some 53) (v := ?_) (a' := ?_) #[true, true, true, true, true, true, true, true, true, true] rfl rfl (any_of HT_.out (by kernel_rfl)) (fun _ _ _ h => h) (Or.inl ⟨by rfl, ?_⟩) ?_ ?_
          rotate_left
          ·intro w'
           go_simp
           with_reducible rfl
          rotate_left
          ·simp only [Act.put, List.setIfInBounds_toArray, List.set_cons_zero, List.set_cons_succ, i64_w, i32_w]
           rfl
          refine done_ (done_of HT_.out (by kernel_rfl)) ?_
          try go_wp2
          go_ret2
          exact ⟨_, by first | rfl | (simp [errW_none, errW_some] <;> rfl) | (simp [*, errW_none, errW_some] <;> rfl), by first | exact Kd.R_nil _ _ _ _ _ | exact Kd.N_nil _ _ _ _ _ | exact Kd.V_nil _ _ _ _ _ | exact Kd.Q_nil _ _ _ _ _ | exact Kd.S_nil _ _ _ _ _, F4_⟩
         ·rw [if_neg c93] at H
          have c93b0 : (x17_2 == (t126.length : Int)) = false := beq_eq_false_iff_ne.mpr c93
          have c93b1 : (x17_2 != (t126.length : Int)) = true := bne_iff_ne.mpr c93
          have H' := Aside0.mk H
          clear H
          try go_wp2
          have n0_ := Aside0.mk (Kd.R_drew HO_16.out)
          have n1_ := Aside0.mk (blk_drew BK101.out)
          have n2_ := Aside0.mk (blk_drew BK102.out)
          have n3_ := Aside0.mk (blk_drew BK103.out)
          have n4_ := Aside0.mk (blk_drew BK113.out)
          have n5_ := Aside0.mk (blk_drew BK125.out)
          have n6_ := Aside0.mk (below_drew1 HB.out)
          clear HO_16
          clear BK101
          clear BK102
          clear BK103
          clear BK113
          clear BK125
          clear HB
          have HO_16 := n0_
          have BK101 := n1_
          have BK102 := n2_
          have BK103 := n3_
          have BK113 := n4_
          have BK125 := n5_
          have HB := n6_
          clear n0_ n1_ n2_ n3_ n4_ n5_ n6_
          obtain ⟨Ao100, co100, eo100⟩ := Kd.R_slice HO_16.out
          (first | subst eo100 | (injection eo100 with f1_ f2_ f3_; have f4_ := f1_.symm; have f5_ := f3_.symm; clear f1_ f2_ f3_; subst f4_; subst f5_))
          have q99 : (x17_2 : Int) ≤ ((t126.length : Int) : Int) := of_decide_eq_true F28_
          obtain ⟨i099, hi099, _, hsz99, _⟩ := info_parts info3
          have hroom99 : t126.length ≤ co100 := (Kd.R_reads' HO_16.out).2.1
          have hC99 : Kd.C (Kd.int .i64) _ Ao100 t126.length t126 := (Kd.R_reads' HO_16.out).2.2
          try clear hcut95
          have hcut99 := cut_to (P := Try.prog) 71 3 .i64 Try.underlying71 hi099 Ao100 t126.length co100 x17_2 (of_decide_eq_true F28_) q99 hroom99
          have hr99 := Kd.C_take (m := (x17_2 : Int).toNat) hC99 (by omega)
          have hy99 : y129.length = (x17_2 : Int).toNat := (by rw [Ny129.out, List.length_take]; omega)
          rw [← Ny129.out] at hr99
          rw [← hy99] at hcut99
          have HR132 := Aside0.mk hr99
          have HC132 := Aside0.mk (show y129.length ≤ co100 from by omega)
          clear hr99 hC99 hroom99 hi099 hsz99
          have KY99 := Aside0.mk hy99
          clear hy99
          have KL99 := Aside0.mk (show (x17_2 : Int).toNat ≤ t126.length from by omega)
          replace q99 := eq_true q99
          refine start_ (n := 10) (S := fun w' => w'.cell? ⟨gb101, 0, none⟩ = some (.slice A0_0 l0_0.length c0_0) ∧ w'.cell? ⟨gb101, 1, none⟩ = some (.slice A0_1 l0_1.length c0_1) ∧ w'.cell? ⟨gb101, 2, none⟩ = some (.slice A0_2 l0_2.length c0_2) ∧ w'.cell? ⟨gb102, 0, none⟩ = some (.slice A1_0 l1_0.length c1_0) ∧ w'.cell? ⟨gb102, 1, none⟩ = some (.int .i64 a1_1) ∧ w'.cell? ⟨gb102, 2, none⟩ = some (.int .i64 a1_2) ∧ w'.cell? ⟨gb103, 0, none⟩ = some (.slice A2_0 l2_0.length c2_0) ∧ w'.cell? ⟨gb103, 1, none⟩ = some (.int .i64 a2_1) ∧ w'.cell? ⟨gb103, 2, none⟩ = some (.int .i64 a2_2)) (ds := []) #[false, false, false, false, false, false, false, false, false, false] (by kernel_rfl) rfl rfl ⟨(blk_cell BK101.out 0).trans rfl, (blk_cell BK101.out 1).trans rfl, (blk_cell BK101.out 2).trans rfl, (blk_cell BK102.out 0).trans rfl, (blk_cell BK102.out 1).trans rfl, (blk_cell BK102.out 2).trans rfl, (blk_cell BK103.out 0).trans rfl, (blk_cell BK103.out 1).trans rfl, (blk_cell BK103.out 2).trans rfl⟩ (fun hHeld => ?_); refine with_tabW victim_Choose.tab7 victim_Choose.bits7 (fun HT_ HW_ => ?_)
          generalize wr.drew = w98 at HO_16 BK101 BK102 BK103 BK113 BK125 HB HR132 hHeld ⊢
          refine pure_ (i := 3) (N := some 47) (v := ?_) (a' := ?_) #[false, false, false, true, false, false, false, false, false, false] rfl rfl (any_of HT_.out (by kernel_rfl)) (fun _ _ _ h => h) (Or.inl ⟨by rfl, ?_⟩) ?_ ?_
          rotate_left
          ·intro w'
           go_simp
           with_reducible rfl
          rotate_left
          ·simp only [Act.put, List.setIfInBounds_toArray, List.set_cons_zero, List.set_cons_succ, i64_w, i32_w]
           rfl
          refine pure_ (i := 4) (N := some 48) (v := ?_) (a' := ?_) #[false, false, false, true, true, false, false, false, false, false] rfl rfl (any_of HT_.out (by kernel_rfl)) (fun _ _ _ h => h) (Or.inl ⟨by rfl, ?_⟩) ?_ ?_
          rotate_left
          ·intro w'
           go_simp
           with_reducible rfl
          rotate_left
          ·simp only [Act.put, List.setIfInBounds_toArray, List.set_cons_zero, List.set_cons_succ, i64_w, i32_w]
           rfl
          refine pure_ (i := 5) (N := some 49) (v := ?_) (a' := ?_) #[false, false, false, true, true, true, false, false, false, false] rfl rfl (any_of HT_.out (by kernel_rfl)) (fun _ _ _ h => h) (Or.inl ⟨by rfl, ?_⟩) ?_ ?_
          rotate_left
          ·intro w'
           go_simp
           with_reducible rfl
          rotate_left
          ·simp only [Act.put, List.setIfInBounds_toArray, List.set_cons_zero, List.set_cons_succ, i64_w, i32_w]
           rfl
          refine pure_ (i := 6) (N := some 50) (v := ?_) (a' := ?_) #[false, false, false, true, true, true, true, false, false, false] rfl rfl (any_of HT_.out (by kernel_rfl)) (fun _ _ _ h => h) (Or.inl ⟨by rfl, ?_⟩) ?_ ?_
          rotate_left
          ·intro w'
           go_simp
           with_reducible rfl
          rotate_left
          ·simp only [Act.put, List.setIfInBounds_toArray, List.set_cons_zero, List.set_cons_succ, i64_w, i32_w]
           rfl
          refine pure_ (i := 7) (N := some 51) (v := ?_) (a' := ?_) #[false, false, false, true, true, true, true, true, false, false] rfl rfl (any_of HT_.out (by kernel_rfl)) (fun _ _ _ h => h) (Or.inl ⟨by rfl, ?_⟩) ?_ ?_
          rotate_left
          ·intro w'
           go_simp
           with_reducible rfl
          rotate_left
          ·simp only [Act.put, List.setIfInBounds_toArray, List.set_cons_zero, List.set_cons_succ, i64_w, i32_w]
           rfl
          refine take_ (i := 0) (N := some 44) (v := ?_) (a' := ?_) #[true, false, false, true, true, true, true, true, false, false] rfl rfl (take_ofW HT_.out HW_.out (by kernel_rfl)) (fun _ _ _ h => h) (Or.inl ⟨by rfl, ?_⟩) hHeld ?_ ?_
          rotate_left
          ·rintro w' ⟨s0, s1, s2, s3, s4, s5, s6, s7, s8⟩
           go_simp
           with_reducible rfl
          rotate_left
          ·simp only [Act.put, List.setIfInBounds_toArray, List.set_cons_zero, List.set_cons_succ, i64_w, i32_w]
           rfl
          refine take_ (i := 1) (N := some 45) (v := ?_) (a' := ?_) #[true, true, false, true, true, true, true, true, false, false] rfl rfl (take_ofW HT_.out HW_.out (by kernel_rfl)) (fun _ _ _ h => h) (Or.inl ⟨by rfl, ?_⟩) hHeld ?_ ?_
          rotate_left
          ·rintro w' ⟨s0, s1, s2, s3, s4, s5, s6, s7, s8⟩
           go_simp
           with_reducible rfl
          rotate_left
          ·simp only [Act.put, List.setIfInBounds_toArray, List.set_cons_zero, List.set_cons_succ, i64_w, i32_w]
           rfl
          refine take_ (i := 2) (N := some 46) (v := ?_) (a' := ?_) #[true, true, true, true, true, true, true, true, false, false] rfl rfl (take_ofW HT_.out HW_.out (by kernel_rfl)) (fun _ _ _ h => h) (Or.inl ⟨by rfl, ?_⟩) hHeld ?_ ?_
          rotate_left
          ·rintro w' ⟨s0, s1, s2, s3, s4, s5, s6, s7, s8⟩
           go_simp
           with_reducible rfl
          rotate_left
          ·simp only [Act.put, List.setIfInBounds_toArray, List.set_cons_zero, List.set_cons_succ, i64_w, i32_w]
           rfl
          refine one_ (i := 8) (N := some 52) #[true, true, true, true, true, true, true, true, true, false] rfl rfl (one_of HT_.out (by kernel_rfl)) (by decide) (fun K hK => ?_)
          refine goes_ Try.func62 (by kernel_rfl) rfl #[.agg #[.slice A0_0 l0_0.length c0_0, .slice A0_1 l0_1.length c0_1, .slice A0_2 l0_2.length c0_2], .agg #[.slice A1_0 l1_0.length c1_0, .int .i64 a1_1, .int .i64 a1_2], .agg #[.slice A2_0 l2_0.length c2_0, .int .i64 a2_1, .int .i64 a2_2], .int .i64 a3, .int .i64 a4, .slice Ao100 y129.length co100] (by rfl) rfl rfl F7_ ?_
          with_reducible refine (victim_Makes.calls k2 _ _ l0_0 _ _ l0_1 _ _ l0_2 _ _ l1_0 a1_1 a1_2 _ _ l2_0 a2_1 a2_2 a3 a4 _ _ y129 false _ ?side1 ?side2 ?side3 ?side4 ?side5 ?side6 ?side7 ?side8 ?side9 ?side10 ?side11 ?side12 A41.out).mono ?_
          (case side1 => exact F18_)
          (case side2 => exact HC0_0.out)
          (case side3 => exact F19_)
          (case side4 => exact HC0_1.out)
          (case side5 => exact F20_)
          (case side6 => exact HC0_2.out)
          (case side7 => exact F21_)
          (case side8 => exact HC1_0.out)
          (case side9 => exact F16_)
          (case side10 => exact HC2_0.out)
          (case side11 => exact F33_)
          (case side12 => exact HC132.out)
          rintro e w101 ⟨rfl, hb⟩
          refine ⟨_, rfl, ?_⟩
          have n0_ := Aside0.mk (Kd.R_below F29_ hb)
          have n1_ := Aside0.mk (blk_below (g := gb101) (o := .cells #[.slice A0_0 l0_0.length c0_0, .slice A0_1 l0_1.length c0_1, .slice A0_2 l0_2.length c0_2] 96 (0, 0)) F3_ hb)
          have n2_ := Aside0.mk (blk_below (g := gb102) (o := .cells #[.slice A1_0 l1_0.length c1_0, .int .i64 a1_1, .int .i64 a1_2] 99 (0, 0)) F5_ hb)
          have n3_ := Aside0.mk (blk_below (g := gb103) (o := .cells #[.slice A2_0 l2_0.length c2_0, .int .i64 a2_1, .int .i64 a2_2] 26 (0, 0)) F6_ hb)
          have n4_ := Aside0.mk (blk_below (g := gb113) (o := .cells #[.int .i64 t104, .int .i64 t105, .int .i64 t106, .int .u64 t107, .int .u64 t108, .int .u64 t109, .int .u64 t110, .int .i64 t111] 70 (0, 0)) F9_ hb)
          have n5_ := Aside0.mk (blk_below (g := gb125) (o := .cells #[.int .i64 t114, .int .i64 t115, .int .u64 t116, .int .u64 t117, .int .u64 t118, .int .u64 t119, .int .u64 t120, .int .u64 t121, .int .u64 t122, .int .u64 t123] 150 (0, 0)) F14_ hb)
          have n6_ := Aside0.mk (Kd.C_below F15_ hb)
          have n7_ := Aside0.mk (below_step F1_ hb)
          clear HO_16
          clear BK101
          clear BK102
          clear BK103
          clear BK113
          clear BK125
          clear HR132
          clear HB
          have HO_16 := n0_
          have BK101 := n1_
          have BK102 := n2_
          have BK103 := n3_
          have BK113 := n4_
          have BK125 := n5_
          have HR132 := n6_
          have HB := n7_
          clear n0_ n1_ n2_ n3_ n4_ n5_ n6_ n7_
          (try clear hb)
          (try clear hb2)
          (try clear hk)
          (try clear hi)
          refine hK.out _ _ ⟨(blk_cell BK101.out 0).trans rfl, (blk_cell BK101.out 1).trans rfl, (blk_cell BK101.out 2).trans rfl, (blk_cell BK102.out 0).trans rfl, (blk_cell BK102.out 1).trans rfl, (blk_cell BK102.out 2).trans rfl, (blk_cell BK103.out 0).trans rfl, (blk_cell BK103.out 1).trans rfl, (blk_cell BK103.out 2).trans rfl⟩ (fun hHeld => ?_)
          clear hK K
          refine norm_ (a' := ?_) ?_ ?_
          rotate_left
          ·show Act.put _ (some 52) _ = _
           simp only [Act.put, List.setIfInBounds_toArray, List.set_cons_zero, List.set_cons_succ, i64_w, i32_w]
           rfl
          refine pure_ (i := 9) (N := some 53) (v := ?_) (a' := ?_) #[true, true, true, true, true, true, true, true, true, true] rfl rfl (any_of HT_.out (by kernel_rfl)) (fun _ _ _ h => h) (Or.inl ⟨by rfl, ?_⟩) ?_ ?_
          rotate_left
          ·intro w'
           go_simp
           with_reducible rfl
          rotate_left
          ·simp only [Act.put, List.setIfInBounds_toArray, List.set_cons_zero, List.set_cons_succ, i64_w, i32_w]
           rfl
          refine done_ (done_of HT_.out (by kernel_rfl)) ?_
          try go_wp2
          go_roundg k2
          case measure => have := HJ7.out; have := HK2.out; omega
          case rel => exact ⟨(wrap64 (x17_2 + 1)), F32_, H', ⟨by have := HJ7.out; have := HK2.out; omega⟩, ⟨by (with_reducible repeat (first | apply Kd.R_alloc | apply Kd.R_drewN | apply Kd.R_drew)); exact HO_16.out⟩, ⟨F23_⟩, ⟨F24_⟩, ⟨F25_⟩, ⟨F26_⟩, ⟨F27_⟩, ⟨F4_⟩⟩
       ·rw [if_neg c40] at H
        exact absurd H (by simp)
      ·rw [if_neg c39] at H
       exact absurd H (by simp)

end Go.Proofs.Ytppfkbigeknedaa.Q
