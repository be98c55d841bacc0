import Derived.Test.YtppfkbigeknedaaUQ0
import Derived.Test.YtppfkbigeknedaaUQdunnagelaw14up
import Derived.Test.YtppfkbigeknedaaUQdunnageref05Few
import Derived.Test.YtppfkbigeknedaaUQfitBest
import Derived.Test.YtppfkbigeknedaaUQfitFirst
import Derived.Test.YtppfkbigeknedaaUQfitFits
import Derived.Test.YtppfkbigeknedaaUQfitTighter
import Derived.Test.YtppfkbigeknedaaUQroomRest
import Derived.Test.YtppfkbigeknedaaUQvecSub
namespace Go.Proofs.Ytppfkbigeknedaa.Q
open Go.RowKit Go.Proofs.YtppfkbigeknedaaW.PrintWords Go.Proofs.YtppfkbigeknedaaW.PrintLast Go.Proofs.YtppfkbigeknedaaW.PrintMore
attribute [local go_sem] max2_int min2_int max_two min_two max_three min_three max_four min_four   -- for this text's walks alone
set_option linter.unusedVariables false
set_option linter.unusedSimpArgs false

attribute [local go_sem] eqe_ii eqe_nn eqe_ni eqe_nni
set_option maxRecDepth 1000000
namespace FoldQdunnagelaw14FitTight
theorem F1_ {p : Prop} (h : p := by (with_reducible repeat (first | refine blk_drewN ?_ _ | refine blk_drew ?_ | refine blk_alloc ?_ _)); exact BK101.out) : p := h
theorem F2_ {p : Prop} (h : p := by (with_reducible repeat (first | refine blk_drewN ?_ _ | refine blk_drew ?_ | refine blk_alloc ?_ _)); exact BK102.out) : p := h
theorem F3_ {p : Prop} (h : p := by (with_reducible repeat (first | refine blk_drewN ?_ _ | refine blk_drew ?_ | refine blk_alloc ?_ _)); exact BK103.out) : p := h
theorem F4_ {p : Prop} (h : p := by repeat (first | (with_reducible first | exact HB.out | apply below_alloc | apply pw_below_drewN | apply below_drew1 | refine below_set ?_ GE101.out | refine below_set ?_ GE102.out | refine below_set ?_ GE103.out | refine below_set ?_ GE117.out | refine below_set ?_ GE123.out | refine below_set ?_ GE134.out) | exact HB.out)) : p := h
theorem F5_ {p : Prop} (h : p := by repeat (first | (with_reducible first | exact HB.out | apply below_alloc | apply pw_below_drewN | apply below_drew1 | refine below_set ?_ GE101.out | refine below_set ?_ GE102.out | refine below_set ?_ GE103.out | refine below_set ?_ GE117.out | refine below_set ?_ GE123.out) | exact HB.out)) : p := h
theorem F6_ {p : Prop} (h : p := by (with_reducible repeat (first | refine blk_drewN ?_ _ | refine blk_drew ?_ | refine blk_alloc ?_ _)); exact BK117.out) : p := h
theorem F7_ {p : Prop} (h : p := by repeat (first | (with_reducible first | exact HB.out | apply below_alloc | apply pw_below_drewN | apply below_drew1 | refine below_set ?_ GE101.out | refine below_set ?_ GE102.out | refine below_set ?_ GE103.out) | exact HB.out)) : p := h
theorem F8_ {p : Prop} (h : p := by (with_reducible repeat (first | refine blk_drewN ?_ _ | refine blk_drew ?_ | refine blk_alloc ?_ _)); exact BK123.out) : p := h
theorem F9_ {p : Prop} (h : p := by first | exact Kd.own_blk (Kd.R_ne HO_9.out BK134.out (by decide)) | (rw [add_block]; exact Kd.own_blk (Kd.R_ne HO_9.out BK134.out (by decide))) | (show (Addr.add _ _).block ≠ _; rw [add_block]; exact Kd.own_blk (Kd.R_ne HO_9.out BK134.out (by decide))) | (dsimp only; exact Kd.own_blk (Kd.R_ne HO_9.out BK134.out (by decide)))) : p := h
theorem F10_ {p : Prop} (h : p := by (try simp only [List.map_toArray, List.map_cons, List.map_nil]); first | done | rfl | (simp only [List.length_drop, List.length_take]; rfl)) : p := h
theorem F11_ {p : Prop} (h : p := by repeat (first | exact (Kd.C_below HR0_0.out HB.out) | (with_reducible refine Kd.C_alloc ?_ _) | (with_reducible refine Kd.C_drewN ?_ _) | (with_reducible refine Kd.C_drew ?_))) : p := h
theorem F12_ {p : Prop} (h : p := by repeat (first | exact (Kd.C_below HR0_1.out HB.out) | (with_reducible refine Kd.C_alloc ?_ _) | (with_reducible refine Kd.C_drewN ?_ _) | (with_reducible refine Kd.C_drew ?_))) : p := h
theorem F13_ {p : Prop} (h : p := by repeat (first | exact (Kd.C_below HR0_2.out HB.out) | (with_reducible refine Kd.C_alloc ?_ _) | (with_reducible refine Kd.C_drewN ?_ _) | (with_reducible refine Kd.C_drew ?_))) : p := h
theorem F14_ {p : Prop} (h : p := by repeat (first | exact (Kd.C_below HR1_0.out HB.out) | (with_reducible refine Kd.C_alloc ?_ _) | (with_reducible refine Kd.C_drewN ?_ _) | (with_reducible refine Kd.C_drew ?_))) : p := h
theorem F15_ {p : Prop} (h : p := by (with_reducible repeat (first | apply Kd.R_alloc | apply Kd.R_drewN | apply Kd.R_drew)); exact HO_9.out) : p := h
theorem F16_ {p : Prop} (h : p := by repeat (first | (with_reducible first | exact HB.out | apply below_alloc | apply pw_below_drewN | apply below_drew1 | refine below_set ?_ GE101.out | refine below_set ?_ GE102.out) | exact HB.out)) : p := h
theorem F17_ {p : Prop} (h : p := by (with_reducible repeat (first | refine blk_drewN ?_ _ | refine blk_drew ?_ | refine blk_alloc ?_ _)); exact BK134.out) : p := h
theorem F18_ {p : Prop} (h : p := by (with_reducible repeat (first | refine blk_drewN ?_ _ | refine blk_drew ?_ | refine blk_alloc ?_ _)); refine blk_put (cs := #[.int .u64 t129, .int .u64 t130, .int .u64 t131, .int .u64 0]) ?_ 3 _ rfl; (with_reducible repeat (first | refine blk_drewN ?_ _ | refine blk_drew ?_ | refine blk_alloc ?_ _)); refine blk_put (cs := #[.int .u64 t129, .int .u64 t130, .int .u64 0, .int .u64 0]) ?_ 2 _ rfl; (with_reducible repeat (first | refine blk_drewN ?_ _ | refine blk_drew ?_ | refine blk_alloc ?_ _)); refine blk_put (cs := #[.int .u64 t129, .int .u64 0, .int .u64 0, .int .u64 0]) ?_ 1 _ rfl; (with_reducible repeat (first | refine blk_drewN ?_ _ | refine blk_drew ?_ | refine blk_alloc ?_ _)); refine blk_put (cs := #[.int .u64 0, .int .u64 0, .int .u64 0, .int .u64 0]) ?_ 0 _ rfl; (with_reducible repeat (first | refine blk_drewN ?_ _ | refine blk_drew ?_ | refine blk_alloc ?_ _)); exact BK134.out) : p := h
theorem F19_ {p : Prop} (h : p := by repeat (first | (with_reducible first | exact HB.out | apply below_alloc | apply pw_below_drewN | apply below_drew1 | refine below_set ?_ GE101.out | refine below_set ?_ GE102.out | refine below_set ?_ GE103.out | refine below_set ?_ GE117.out) | exact HB.out)) : p := h
theorem F20_ {p : Prop} (h : p := by repeat (first | (with_reducible first | exact HB.out | apply below_alloc | apply pw_below_drewN | apply below_drew1 | refine below_set ?_ GE101.out) | exact HB.out)) : p := h
theorem F21_ {p : Prop} (h : p := by repeat (first | (with_reducible first | exact HB.out | apply below_alloc | apply pw_below_drewN | apply below_drew1 | refine below_set ?_ GE101.out | refine below_set ?_ GE102.out | refine below_set ?_ GE103.out | refine below_set ?_ GE117.out | refine below_set ?_ GE123.out) | exact HB.out)) : p := h
theorem F22_ {p : Prop} (h : p := by (with_reducible repeat (first | refine blk_drewN ?_ _ | refine blk_drew ?_ | refine blk_alloc ?_ _)); refine blk_far ?_ NB101_134.out _; (with_reducible repeat (first | refine blk_drewN ?_ _ | refine blk_drew ?_ | refine blk_alloc ?_ _)); refine blk_far ?_ NB101_134.out _; (with_reducible repeat (first | refine blk_drewN ?_ _ | refine blk_drew ?_ | refine blk_alloc ?_ _)); refine blk_far ?_ NB101_134.out _; (with_reducible repeat (first | refine blk_drewN ?_ _ | refine blk_drew ?_ | refine blk_alloc ?_ _)); refine blk_far ?_ NB101_134.out _; (with_reducible repeat (first | refine blk_drewN ?_ _ | refine blk_drew ?_ | refine blk_alloc ?_ _)); exact BK101.out) : p := h
theorem F23_ {p : Prop} (h : p := by (with_reducible repeat (first | refine blk_drewN ?_ _ | refine blk_drew ?_ | refine blk_alloc ?_ _)); refine blk_far ?_ NB102_134.out _; (with_reducible repeat (first | refine blk_drewN ?_ _ | refine blk_drew ?_ | refine blk_alloc ?_ _)); refine blk_far ?_ NB102_134.out _; (with_reducible repeat (first | refine blk_drewN ?_ _ | refine blk_drew ?_ | refine blk_alloc ?_ _)); refine blk_far ?_ NB102_134.out _; (with_reducible repeat (first | refine blk_drewN ?_ _ | refine blk_drew ?_ | refine blk_alloc ?_ _)); refine blk_far ?_ NB102_134.out _; (with_reducible repeat (first | refine blk_drewN ?_ _ | refine blk_drew ?_ | refine blk_alloc ?_ _)); exact BK102.out) : p := h
theorem F24_ {p : Prop} (h : p := by (with_reducible repeat (first | refine blk_drewN ?_ _ | refine blk_drew ?_ | refine blk_alloc ?_ _)); refine blk_far ?_ NB103_134.out _; (with_reducible repeat (first | refine blk_drewN ?_ _ | refine blk_drew ?_ | refine blk_alloc ?_ _)); refine blk_far ?_ NB103_134.out _; (with_reducible repeat (first | refine blk_drewN ?_ _ | refine blk_drew ?_ | refine blk_alloc ?_ _)); refine blk_far ?_ NB103_134.out _; (with_reducible repeat (first | refine blk_drewN ?_ _ | refine blk_drew ?_ | refine blk_alloc ?_ _)); refine blk_far ?_ NB103_134.out _; (with_reducible repeat (first | refine blk_drewN ?_ _ | refine blk_drew ?_ | refine blk_alloc ?_ _)); exact BK103.out) : p := h
theorem F25_ {p : Prop} (h : p := by (with_reducible repeat (first | refine blk_drewN ?_ _ | refine blk_drew ?_ | refine blk_alloc ?_ _)); refine blk_far ?_ NB117_134.out _; (with_reducible repeat (first | refine blk_drewN ?_ _ | refine blk_drew ?_ | refine blk_alloc ?_ _)); refine blk_far ?_ NB117_134.out _; (with_reducible repeat (first | refine blk_drewN ?_ _ | refine blk_drew ?_ | refine blk_alloc ?_ _)); refine blk_far ?_ NB117_134.out _; (with_reducible repeat (first | refine blk_drewN ?_ _ | refine blk_drew ?_ | refine blk_alloc ?_ _)); refine blk_far ?_ NB117_134.out _; (with_reducible repeat (first | refine blk_drewN ?_ _ | refine blk_drew ?_ | refine blk_alloc ?_ _)); exact BK117.out) : p := h
theorem F26_ {p : Prop} (h : p := by (with_reducible repeat (first | refine blk_drewN ?_ _ | refine blk_drew ?_ | refine blk_alloc ?_ _)); refine blk_far ?_ NB123_134.out _; (with_reducible repeat (first | refine blk_drewN ?_ _ | refine blk_drew ?_ | refine blk_alloc ?_ _)); refine blk_far ?_ NB123_134.out _; (with_reducible repeat (first | refine blk_drewN ?_ _ | refine blk_drew ?_ | refine blk_alloc ?_ _)); refine blk_far ?_ NB123_134.out _; (with_reducible repeat (first | refine blk_drewN ?_ _ | refine blk_drew ?_ | refine blk_alloc ?_ _)); refine blk_far ?_ NB123_134.out _; (with_reducible repeat (first | refine blk_drewN ?_ _ | refine blk_drew ?_ | refine blk_alloc ?_ _)); exact BK123.out) : p := h
theorem F27_ {p : Prop} (h : p := by repeat (first | (with_reducible first | exact HB.out | apply below_alloc | apply pw_below_drewN | apply below_drew1) | exact HB.out)) : p := h
theorem F28_ {p : Prop} (h : p := by (with_reducible repeat (first | refine blk_drewN ?_ _ | refine blk_drew ?_ | refine blk_alloc ?_ _)); refine blk_put (cs := #[.int .u64 t118, .int .u64 t119, .int .u64 t120, .int .u64 0]) ?_ 3 _ rfl; (with_reducible repeat (first | refine blk_drewN ?_ _ | refine blk_drew ?_ | refine blk_alloc ?_ _)); refine blk_put (cs := #[.int .u64 t118, .int .u64 t119, .int .u64 0, .int .u64 0]) ?_ 2 _ rfl; (with_reducible repeat (first | refine blk_drewN ?_ _ | refine blk_drew ?_ | refine blk_alloc ?_ _)); refine blk_put (cs := #[.int .u64 t118, .int .u64 0, .int .u64 0, .int .u64 0]) ?_ 1 _ rfl; (with_reducible repeat (first | refine blk_drewN ?_ _ | refine blk_drew ?_ | refine blk_alloc ?_ _)); refine blk_put (cs := #[.int .u64 0, .int .u64 0, .int .u64 0, .int .u64 0]) ?_ 0 _ rfl; (with_reducible repeat (first | refine blk_drewN ?_ _ | refine blk_drew ?_ | refine blk_alloc ?_ _)); exact BK123.out) : p := h
theorem F29_ {p : Prop} (h : p := by (with_reducible repeat (first | apply Kd.R_alloc | apply Kd.R_drewN | apply Kd.R_drew)); exact HO108.out) : p := h
theorem F30_ {p : Prop} (h : p := by (with_reducible repeat (first | apply Kd.R_alloc | apply Kd.R_drewN | apply Kd.R_drew)); exact (Kd.R_mono (Kd.R_far (p := ⟨gb134, 3, none⟩) (Kd.R_far (p := ⟨gb134, 2, none⟩) (Kd.R_far (p := ⟨gb134, 1, none⟩) (Kd.R_far (p := ⟨gb134, 0, none⟩) (Kd.R_types HO_9.out BK134.out (by decide)) (fun _ hk => hk.2) (.int .u64 t129)) (fun _ hk => hk.2) (.int .u64 t130)) (fun _ hk => hk.2) (.int .u64 t131)) (fun _ hk => hk.2) (.int .u64 t132)) (fun _ h_ => h_.1))) : p := h
theorem F31_ {p : Prop} (h : p := by (with_reducible repeat (first | refine blk_drewN ?_ _ | refine blk_drew ?_ | refine blk_alloc ?_ _)); refine blk_far ?_ NB101_123.out _; (with_reducible repeat (first | refine blk_drewN ?_ _ | refine blk_drew ?_ | refine blk_alloc ?_ _)); refine blk_far ?_ NB101_123.out _; (with_reducible repeat (first | refine blk_drewN ?_ _ | refine blk_drew ?_ | refine blk_alloc ?_ _)); refine blk_far ?_ NB101_123.out _; (with_reducible repeat (first | refine blk_drewN ?_ _ | refine blk_drew ?_ | refine blk_alloc ?_ _)); refine blk_far ?_ NB101_123.out _; (with_reducible repeat (first | refine blk_drewN ?_ _ | refine blk_drew ?_ | refine blk_alloc ?_ _)); exact BK101.out) : p := h
theorem F32_ {p : Prop} (h : p := by (with_reducible repeat (first | refine blk_drewN ?_ _ | refine blk_drew ?_ | refine blk_alloc ?_ _)); refine blk_far ?_ NB102_123.out _; (with_reducible repeat (first | refine blk_drewN ?_ _ | refine blk_drew ?_ | refine blk_alloc ?_ _)); refine blk_far ?_ NB102_123.out _; (with_reducible repeat (first | refine blk_drewN ?_ _ | refine blk_drew ?_ | refine blk_alloc ?_ _)); refine blk_far ?_ NB102_123.out _; (with_reducible repeat (first | refine blk_drewN ?_ _ | refine blk_drew ?_ | refine blk_alloc ?_ _)); refine blk_far ?_ NB102_123.out _; (with_reducible repeat (first | refine blk_drewN ?_ _ | refine blk_drew ?_ | refine blk_alloc ?_ _)); exact BK102.out) : p := h
theorem F33_ {p : Prop} (h : p := by (with_reducible repeat (first | refine blk_drewN ?_ _ | refine blk_drew ?_ | refine blk_alloc ?_ _)); refine blk_far ?_ NB103_123.out _; (with_reducible repeat (first | refine blk_drewN ?_ _ | refine blk_drew ?_ | refine blk_alloc ?_ _)); refine blk_far ?_ NB103_123.out _; (with_reducible repeat (first | refine blk_drewN ?_ _ | refine blk_drew ?_ | refine blk_alloc ?_ _)); refine blk_far ?_ NB103_123.out _; (with_reducible repeat (first | refine blk_drewN ?_ _ | refine blk_drew ?_ | refine blk_alloc ?_ _)); refine blk_far ?_ NB103_123.out _; (with_reducible repeat (first | refine blk_drewN ?_ _ | refine blk_drew ?_ | refine blk_alloc ?_ _)); exact BK103.out) : p := h
theorem F34_ {p : Prop} (h : p := by (with_reducible repeat (first | refine blk_drewN ?_ _ | refine blk_drew ?_ | refine blk_alloc ?_ _)); refine blk_far ?_ NB117_123.out _; (with_reducible repeat (first | refine blk_drewN ?_ _ | refine blk_drew ?_ | refine blk_alloc ?_ _)); refine blk_far ?_ NB117_123.out _; (with_reducible repeat (first | refine blk_drewN ?_ _ | refine blk_drew ?_ | refine blk_alloc ?_ _)); refine blk_far ?_ NB117_123.out _; (with_reducible repeat (first | refine blk_drewN ?_ _ | refine blk_drew ?_ | refine blk_alloc ?_ _)); refine blk_far ?_ NB117_123.out _; (with_reducible repeat (first | refine blk_drewN ?_ _ | refine blk_drew ?_ | refine blk_alloc ?_ _)); exact BK117.out) : p := h
theorem F35_ {p : Prop} (h : p := by simp only [putAll, Act.put, List.setIfInBounds_toArray, List.set_cons_zero, List.set_cons_succ]; try rfl) : p := h
theorem F36_ {p : Prop} (h : p := by repeat (first | (with_reducible first | exact HB.out | apply below_alloc | apply pw_below_drewN | apply below_drew1 | refine below_set ?_ GE101.out | refine below_set ?_ GE102.out | refine below_set ?_ GE103.out | refine below_set ?_ GE117.out | refine below_set ?_ GE123.out | refine below_set ?_ GE134.out | refine below_set ?_ GE140.out) | exact HB.out)) : p := h
theorem F37_ {p : Prop} (h : p := by (with_reducible repeat (first | apply Kd.R_alloc | apply Kd.R_drewN | apply Kd.R_drew)); exact Kd.R_mono (Kd.R_far (p := ⟨gb123, 3, none⟩) (Kd.R_far (p := ⟨gb123, 2, none⟩) (Kd.R_far (p := ⟨gb123, 1, none⟩) (Kd.R_far (p := ⟨gb123, 0, none⟩) (Kd.R_types HO108.out BK123.out (by decide)) (fun _ hk => hk.2) (.int .u64 t118)) (fun _ hk => hk.2) (.int .u64 t119)) (fun _ hk => hk.2) (.int .u64 t120)) (fun _ hk => hk.2) (.int .u64 t121)) (fun _ hk => trivial)) : p := h
theorem F38_ {p : Prop} (h : p := by (with_reducible repeat (first | refine blk_drewN ?_ _ | refine blk_drew ?_ | refine blk_alloc ?_ _)); refine blk_put (cs := #[.int .u64 t135, .int .u64 t136, .int .u64 t137, .int .u64 0]) ?_ 3 _ rfl; (with_reducible repeat (first | refine blk_drewN ?_ _ | refine blk_drew ?_ | refine blk_alloc ?_ _)); refine blk_put (cs := #[.int .u64 t135, .int .u64 t136, .int .u64 0, .int .u64 0]) ?_ 2 _ rfl; (with_reducible repeat (first | refine blk_drewN ?_ _ | refine blk_drew ?_ | refine blk_alloc ?_ _)); refine blk_put (cs := #[.int .u64 t135, .int .u64 0, .int .u64 0, .int .u64 0]) ?_ 1 _ rfl; (with_reducible repeat (first | refine blk_drewN ?_ _ | refine blk_drew ?_ | refine blk_alloc ?_ _)); refine blk_put (cs := #[.int .u64 0, .int .u64 0, .int .u64 0, .int .u64 0]) ?_ 0 _ rfl; (with_reducible repeat (first | refine blk_drewN ?_ _ | refine blk_drew ?_ | refine blk_alloc ?_ _)); exact BK140.out) : p := h
theorem F39_ {p : Prop} (h : p := by first | rfl | (simp [errW_none, errW_some] <;> rfl) | (simp [*, errW_none, errW_some] <;> rfl)) : p := h
theorem F40_ {p : Prop} (h : p := by repeat (first | (with_reducible first | exact HB.out | apply below_alloc | apply pw_below_drewN | apply below_drew1 | refine below_set ?_ GE101.out | refine below_set ?_ GE102.out | refine below_set ?_ GE103.out) | exact HB.out)) : p := h
theorem F41_ {p : Prop} (h : p := by (with_reducible repeat (first | refine blk_drewN ?_ _ | refine blk_drew ?_ | refine blk_alloc ?_ _)); refine blk_far ?_ NB101_140.out _; (with_reducible repeat (first | refine blk_drewN ?_ _ | refine blk_drew ?_ | refine blk_alloc ?_ _)); refine blk_far ?_ NB101_140.out _; (with_reducible repeat (first | refine blk_drewN ?_ _ | refine blk_drew ?_ | refine blk_alloc ?_ _)); refine blk_far ?_ NB101_140.out _; (with_reducible repeat (first | refine blk_drewN ?_ _ | refine blk_drew ?_ | refine blk_alloc ?_ _)); refine blk_far ?_ NB101_140.out _; (with_reducible repeat (first | refine blk_drewN ?_ _ | refine blk_drew ?_ | refine blk_alloc ?_ _)); exact BK101.out) : p := h
theorem F42_ {p : Prop} (h : p := by (with_reducible repeat (first | refine blk_drewN ?_ _ | refine blk_drew ?_ | refine blk_alloc ?_ _)); refine blk_far ?_ NB102_140.out _; (with_reducible repeat (first | refine blk_drewN ?_ _ | refine blk_drew ?_ | refine blk_alloc ?_ _)); refine blk_far ?_ NB102_140.out _; (with_reducible repeat (first | refine blk_drewN ?_ _ | refine blk_drew ?_ | refine blk_alloc ?_ _)); refine blk_far ?_ NB102_140.out _; (with_reducible repeat (first | refine blk_drewN ?_ _ | refine blk_drew ?_ | refine blk_alloc ?_ _)); refine blk_far ?_ NB102_140.out _; (with_reducible repeat (first | refine blk_drewN ?_ _ | refine blk_drew ?_ | refine blk_alloc ?_ _)); exact BK102.out) : p := h
theorem F43_ {p : Prop} (h : p := by (with_reducible repeat (first | refine blk_drewN ?_ _ | refine blk_drew ?_ | refine blk_alloc ?_ _)); refine blk_far ?_ NB103_140.out _; (with_reducible repeat (first | refine blk_drewN ?_ _ | refine blk_drew ?_ | refine blk_alloc ?_ _)); refine blk_far ?_ NB103_140.out _; (with_reducible repeat (first | refine blk_drewN ?_ _ | refine blk_drew ?_ | refine blk_alloc ?_ _)); refine blk_far ?_ NB103_140.out _; (with_reducible repeat (first | refine blk_drewN ?_ _ | refine blk_drew ?_ | refine blk_alloc ?_ _)); refine blk_far ?_ NB103_140.out _; (with_reducible repeat (first | refine blk_drewN ?_ _ | refine blk_drew ?_ | refine blk_alloc ?_ _)); exact BK103.out) : p := h
theorem F44_ {p : Prop} (h : p := by (with_reducible repeat (first | refine blk_drewN ?_ _ | refine blk_drew ?_ | refine blk_alloc ?_ _)); refine blk_far ?_ NB117_140.out _; (with_reducible repeat (first | refine blk_drewN ?_ _ | refine blk_drew ?_ | refine blk_alloc ?_ _)); refine blk_far ?_ NB117_140.out _; (with_reducible repeat (first | refine blk_drewN ?_ _ | refine blk_drew ?_ | refine blk_alloc ?_ _)); refine blk_far ?_ NB117_140.out _; (with_reducible repeat (first | refine blk_drewN ?_ _ | refine blk_drew ?_ | refine blk_alloc ?_ _)); refine blk_far ?_ NB117_140.out _; (with_reducible repeat (first | refine blk_drewN ?_ _ | refine blk_drew ?_ | refine blk_alloc ?_ _)); exact BK117.out) : p := h
theorem F45_ {p : Prop} (h : p := by (with_reducible repeat (first | refine blk_drewN ?_ _ | refine blk_drew ?_ | refine blk_alloc ?_ _)); refine blk_far ?_ NB123_140.out _; (with_reducible repeat (first | refine blk_drewN ?_ _ | refine blk_drew ?_ | refine blk_alloc ?_ _)); refine blk_far ?_ NB123_140.out _; (with_reducible repeat (first | refine blk_drewN ?_ _ | refine blk_drew ?_ | refine blk_alloc ?_ _)); refine blk_far ?_ NB123_140.out _; (with_reducible repeat (first | refine blk_drewN ?_ _ | refine blk_drew ?_ | refine blk_alloc ?_ _)); refine blk_far ?_ NB123_140.out _; (with_reducible repeat (first | refine blk_drewN ?_ _ | refine blk_drew ?_ | refine blk_alloc ?_ _)); exact BK123.out) : p := h
theorem F46_ {p : Prop} (h : p := by (with_reducible repeat (first | refine blk_drewN ?_ _ | refine blk_drew ?_ | refine blk_alloc ?_ _)); refine blk_far ?_ NB134_140.out _; (with_reducible repeat (first | refine blk_drewN ?_ _ | refine blk_drew ?_ | refine blk_alloc ?_ _)); refine blk_far ?_ NB134_140.out _; (with_reducible repeat (first | refine blk_drewN ?_ _ | refine blk_drew ?_ | refine blk_alloc ?_ _)); refine blk_far ?_ NB134_140.out _; (with_reducible repeat (first | refine blk_drewN ?_ _ | refine blk_drew ?_ | refine blk_alloc ?_ _)); refine blk_far ?_ NB134_140.out _; (with_reducible repeat (first | refine blk_drewN ?_ _ | refine blk_drew ?_ | refine blk_alloc ?_ _)); exact BK134.out) : p := h
theorem F47_ {p : Prop} (h : p := by (with_reducible repeat (first | refine blk_drewN ?_ _ | refine blk_drew ?_ | refine blk_alloc ?_ _)); exact BK101.out) : p := h
theorem F48_ {p : Prop} (h : p := by (with_reducible repeat (first | refine blk_drewN ?_ _ | refine blk_drew ?_ | refine blk_alloc ?_ _)); exact BK102.out) : p := h
theorem F49_ {p : Prop} (h : p := by (with_reducible repeat (first | refine blk_drewN ?_ _ | refine blk_drew ?_ | refine blk_alloc ?_ _)); exact BK103.out) : p := h
theorem F50_ {p : Prop} (h : p := by (with_reducible repeat (first | refine blk_drewN ?_ _ | refine blk_drew ?_ | refine blk_alloc ?_ _)); exact BK117.out) : p := h
theorem F51_ {p : Prop} (h : p := by (with_reducible repeat (first | refine blk_drewN ?_ _ | refine blk_drew ?_ | refine blk_alloc ?_ _)); exact BK123.out) : p := h
theorem F52_ {p : Prop} (h : p := by (with_reducible repeat (first | apply Kd.R_alloc | apply Kd.R_drewN | apply Kd.R_drew)); exact (Kd.R_mono (Kd.R_far (p := ⟨gb140, 3, none⟩) (Kd.R_far (p := ⟨gb140, 2, none⟩) (Kd.R_far (p := ⟨gb140, 1, none⟩) (Kd.R_far (p := ⟨gb140, 0, none⟩) (Kd.R_types HO_9.out BK140.out (by decide)) (fun _ hk => hk.2) (.int .u64 t135)) (fun _ hk => hk.2) (.int .u64 t136)) (fun _ hk => hk.2) (.int .u64 t137)) (fun _ hk => hk.2) (.int .u64 t138)) (fun _ h_ => h_.1))) : p := h
theorem F53_ {p : Prop} (h : p := by first | (with_reducible assumption) | assumption) : p := h
theorem F54_ {p : Prop} (h : p := by (with_reducible repeat (first | apply Kd.R_alloc | apply Kd.R_drewN | apply Kd.R_drew)); exact HO108.out) : p := h
theorem L1_ {p : Prop} (h : p := by
  have H1 : (if t122.isNone = true then ((fit_First.f k l0_0 l0_1 l0_2 l1_0 a1_1 a1_2 a2_0 a2_1 a2_2 a2_3).bind fun t126 => (if 0 < (t106.length : Int) then (dunnagelaw14_FitTight.j0 k t104 t106 (t126 != (rd t106 0)) l0_0 l0_1 l0_2 l1_0 a1_1 a1_2 a2_0 a2_1 a2_2 a2_3 t118 t119 t120 t121) else (none))) else (dunnagelaw14_FitTight.j0 k t104 t106 true l0_0 l0_1 l0_2 l1_0 a1_1 a1_2 a2_0 a2_1 a2_2 a2_3 t118 t119 t120 t121)) = some r := by rw [if_pos (show (none : Option Int).isNone = true by rfl)] at H; exact H
  clear H
  have H := H1
  clear H1
  try simp only [errW_none, errW_some]
  rcases t122 with _ | q125
  ·have H1 : ((fit_First.f k l0_0 l0_1 l0_2 l1_0 a1_1 a1_2 a2_0 a2_1 a2_2 a2_3).bind fun t126 => (if 0 < (t106.length : Int) then (dunnagelaw14_FitTight.j0 k t104 t106 (t126 != (rd t106 0)) l0_0 l0_1 l0_2 l1_0 a1_1 a1_2 a2_0 a2_1 a2_2 a2_3 t118 t119 t120 t121) else (none))) = some r := by rw [if_pos (show (none : Option Int).isNone = true by rfl)] at H; exact H
   clear H
   have H := H1
   clear H1
   try simp only [errW_none, errW_some]
   replace H := Option.bind_eq_some_iff.mp H
   obtain ⟨t126, A1100, H⟩ := H
   replace H : (if 0 < (t106.length : Int) then (dunnagelaw14_FitTight.j0 k t104 t106 (t126 != (rd t106 0)) l0_0 l0_1 l0_2 l1_0 a1_1 a1_2 a2_0 a2_1 a2_2 a2_3 t118 t119 t120 t121) else (none)) = some r := H
   have A110 := Aside0.mk A1100
   clear A1100
   by_cases c111 : 0 < (t106.length : Int)
   ·rw [if_pos c111] at H
    have c111b0 : decide (0 < (t106.length : Int)) = true := decide_eq_true c111
    have c111b1 : decide (0 < t106.length) = true := decide_eq_true (by omega)
    clear c111
    (first | rw [c111b0] | (simp only [i64_w, i32_w]; rw [c111b0]) | skip)
    have H' := Aside0.mk H
    clear H
    try go_wp2
    have n0_ : Aside0 (Kd.R (Kd.int .i64) 3 ((((w104.setCell ⟨gb123, 0, none⟩ (.int .u64 t118)).setCell ⟨gb123, 1, none⟩ (.int .u64 t119)).setCell ⟨gb123, 2, none⟩ (.int .u64 t120)).setCell ⟨gb123, 3, none⟩ (.int .u64 t121)) w.heap.size (fun _ => True) (.slice Ao88 t106.length co88) t106) := ⟨F37_⟩
    have n1_ : Aside0 (((((w104.setCell ⟨gb123, 0, none⟩ (.int .u64 t118)).setCell ⟨gb123, 1, none⟩ (.int .u64 t119)).setCell ⟨gb123, 2, none⟩ (.int .u64 t120)).setCell ⟨gb123, 3, none⟩ (.int .u64 t121)).heap[gb101]? = some (.cells #[.slice A0_0 l0_0.length c0_0, .slice A0_1 l0_1.length c0_1, .slice A0_2 l0_2.length c0_2] 96 (0, 0))) := ⟨F31_⟩
    have n2_ : Aside0 (((((w104.setCell ⟨gb123, 0, none⟩ (.int .u64 t118)).setCell ⟨gb123, 1, none⟩ (.int .u64 t119)).setCell ⟨gb123, 2, none⟩ (.int .u64 t120)).setCell ⟨gb123, 3, none⟩ (.int .u64 t121)).heap[gb102]? = some (.cells #[.slice A1_0 l1_0.length c1_0, .int .i64 a1_1, .int .i64 a1_2] 26 (0, 0))) := ⟨F32_⟩
    have n3_ : Aside0 (((((w104.setCell ⟨gb123, 0, none⟩ (.int .u64 t118)).setCell ⟨gb123, 1, none⟩ (.int .u64 t119)).setCell ⟨gb123, 2, none⟩ (.int .u64 t120)).setCell ⟨gb123, 3, none⟩ (.int .u64 t121)).heap[gb103]? = some (.cells #[.int .u64 a2_0, .int .u64 a2_1, .int .u64 a2_2, .int .u64 a2_3] 33 (0, 0))) := ⟨F33_⟩
    have n4_ : Aside0 (((((w104.setCell ⟨gb123, 0, none⟩ (.int .u64 t118)).setCell ⟨gb123, 1, none⟩ (.int .u64 t119)).setCell ⟨gb123, 2, none⟩ (.int .u64 t120)).setCell ⟨gb123, 3, none⟩ (.int .u64 t121)).heap[gb117]? = some (.cells #[.int .u64 t112, .int .u64 t113, .int .u64 t114, .int .u64 t115] 33 (0, 0))) := ⟨F34_⟩
    have n5_ : Aside0 (((((w104.setCell ⟨gb123, 0, none⟩ (.int .u64 t118)).setCell ⟨gb123, 1, none⟩ (.int .u64 t119)).setCell ⟨gb123, 2, none⟩ (.int .u64 t120)).setCell ⟨gb123, 3, none⟩ (.int .u64 t121)).heap[gb123]? = some (.cells #[.int .u64 t118, .int .u64 t119, .int .u64 t120, .int .u64 t121] 33 (0, 0))) := ⟨F28_⟩
    have n6_ : Aside0 (Below w.heap.size w ((((w104.setCell ⟨gb123, 0, none⟩ (.int .u64 t118)).setCell ⟨gb123, 1, none⟩ (.int .u64 t119)).setCell ⟨gb123, 2, none⟩ (.int .u64 t120)).setCell ⟨gb123, 3, none⟩ (.int .u64 t121))) := ⟨F21_⟩
    (try clear HO108)
    (try clear BK101)
    (try clear BK102)
    (try clear BK103)
    (try clear BK117)
    (try clear BK123)
    (try clear HB)
    generalize ((((w104.setCell ⟨gb123, 0, none⟩ (.int .u64 t118)).setCell ⟨gb123, 1, none⟩ (.int .u64 t119)).setCell ⟨gb123, 2, none⟩ (.int .u64 t120)).setCell ⟨gb123, 3, none⟩ (.int .u64 t121)) = w112 at n0_ n1_ n2_ n3_ n4_ n5_ n6_ ⊢
    have HO108 := n0_
    have BK101 := n1_
    have BK102 := n2_
    have BK103 := n3_
    have BK117 := n4_
    have BK123 := n5_
    have HB := n6_
    clear n0_ n1_ n2_ n3_ n4_ n5_ n6_
    have n0_ := Aside0.mk (Kd.R_drew HO108.out)
    have n1_ := Aside0.mk (blk_drew BK101.out)
    have n2_ := Aside0.mk (blk_drew BK102.out)
    have n3_ := Aside0.mk (blk_drew BK103.out)
    have n4_ := Aside0.mk (blk_drew BK117.out)
    have n5_ := Aside0.mk (blk_drew BK123.out)
    have n6_ := Aside0.mk (below_drew1 HB.out)
    clear HO108
    clear BK101
    clear BK102
    clear BK103
    clear BK117
    clear BK123
    clear HB
    have HO108 := n0_
    have BK101 := n1_
    have BK102 := n2_
    have BK103 := n3_
    have BK117 := n4_
    have BK123 := n5_
    have HB := n6_
    clear n0_ n1_ n2_ n3_ n4_ n5_ n6_
    have p127 : 0 ≤ (0 : Int) := (by omega)
    have q127 : 0 < (t106.length : Int) := of_decide_eq_true F53_
    obtain ⟨ad127, e127, hx127_0⟩ := Kd.at_int (Kd.R_reads' HO108.out).2.2 0 p127 q127
    cases e127
    have qi127 : (0 < t106.length) = True := eq_true (by omega)
    (try rw [show ((0 : Int)).toNat = 0 from rfl] at hx127_0)
    (try rw [Addr.add_zero'] at hx127_0)
    replace p127 := eq_true p127
    replace q127 := eq_true q127
    refine start_ (n := 16) (S := fun w' => w'.cell? ⟨gb101, 0, none⟩ = some (.slice A0_0 l0_0.length c0_0) ∧ w'.cell? ⟨gb101, 1, none⟩ = some (.slice A0_1 l0_1.length c0_1) ∧ w'.cell? ⟨gb101, 2, none⟩ = some (.slice A0_2 l0_2.length c0_2) ∧ w'.cell? ⟨gb102, 0, none⟩ = some (.slice A1_0 l1_0.length c1_0) ∧ w'.cell? ⟨gb102, 1, none⟩ = some (.int .i64 a1_1) ∧ w'.cell? ⟨gb102, 2, none⟩ = some (.int .i64 a1_2) ∧ w'.cell? ⟨gb103, 0, none⟩ = some (.int .u64 a2_0) ∧ w'.cell? ⟨gb103, 1, none⟩ = some (.int .u64 a2_1) ∧ w'.cell? ⟨gb103, 2, none⟩ = some (.int .u64 a2_2) ∧ w'.cell? ⟨gb103, 3, none⟩ = some (.int .u64 a2_3) ∧ w'.cell? ad127 = some (.int .i64 (rd t106 0))) (ds := []) #[false, false, false, false, false, false, false, false, false, false, false, false, false, false, false, false] (by kernel_rfl) rfl rfl ⟨(blk_cell BK101.out 0).trans rfl, (blk_cell BK101.out 1).trans rfl, (blk_cell BK101.out 2).trans rfl, (blk_cell BK102.out 0).trans rfl, (blk_cell BK102.out 1).trans rfl, (blk_cell BK102.out 2).trans rfl, (blk_cell BK103.out 0).trans rfl, (blk_cell BK103.out 1).trans rfl, (blk_cell BK103.out 2).trans rfl, (blk_cell BK103.out 3).trans rfl, hx127_0⟩ (fun hHeld => ?_); refine with_tabW dunnagelaw14_FitTight.tab10 dunnagelaw14_FitTight.bits10 (fun HT_ HW_ => ?_)
    generalize w112.drew = w113 at HO108 BK101 BK102 BK103 BK117 BK123 HB hx127_0 hHeld ⊢
    refine pure_ (i := 0) (N := some 65) (v := ?_) (a' := ?_) #[true, false, false, false, false, false, false, false, false, false, false, false, false, false, false, false] rfl rfl (any_of HT_.out (by kernel_rfl)) (fun _ _ _ h => h) (Or.inl ⟨by rfl, ?_⟩) ?_ ?_
    rotate_left
    ·intro w'
     go_simp
     with_reducible rfl
    rotate_left
    ·simp only [Act.put, List.setIfInBounds_toArray, List.set_cons_zero, List.set_cons_succ, i64_w, i32_w]
     rfl
    refine pure_ (i := 1) (N := some 66) (v := ?_) (a' := ?_) #[true, true, false, false, false, false, false, false, false, false, false, false, false, false, false, false] rfl rfl (any_of HT_.out (by kernel_rfl)) (fun _ _ _ h => h) (Or.inl ⟨by rfl, ?_⟩) ?_ ?_
    rotate_left
    ·intro w'
     go_simp
     with_reducible rfl
    rotate_left
    ·simp only [Act.put, List.setIfInBounds_toArray, List.set_cons_zero, List.set_cons_succ, i64_w, i32_w]
     rfl
    refine pure_ (i := 2) (N := some 67) (v := ?_) (a' := ?_) #[true, true, true, false, false, false, false, false, false, false, false, false, false, false, false, false] rfl rfl (any_of HT_.out (by kernel_rfl)) (fun _ _ _ h => h) (Or.inl ⟨by rfl, ?_⟩) ?_ ?_
    rotate_left
    ·intro w'
     go_simp
     with_reducible rfl
    rotate_left
    ·simp only [Act.put, List.setIfInBounds_toArray, List.set_cons_zero, List.set_cons_succ, i64_w, i32_w]
     rfl
    refine pure_ (i := 3) (N := some 68) (v := ?_) (a' := ?_) #[true, true, true, true, false, false, false, false, false, false, false, false, false, false, false, false] rfl rfl (any_of HT_.out (by kernel_rfl)) (fun _ _ _ h => h) (Or.inl ⟨by rfl, ?_⟩) ?_ ?_
    rotate_left
    ·intro w'
     go_simp
     with_reducible rfl
    rotate_left
    ·simp only [Act.put, List.setIfInBounds_toArray, List.set_cons_zero, List.set_cons_succ, i64_w, i32_w]
     rfl
    refine pure_ (i := 4) (N := some 69) (v := ?_) (a' := ?_) #[true, true, true, true, true, false, false, false, false, false, false, false, false, false, false, false] rfl rfl (any_of HT_.out (by kernel_rfl)) (fun _ _ _ h => h) (Or.inl ⟨by rfl, ?_⟩) ?_ ?_
    rotate_left
    ·intro w'
     go_simp
     with_reducible rfl
    rotate_left
    ·simp only [Act.put, List.setIfInBounds_toArray, List.set_cons_zero, List.set_cons_succ, i64_w, i32_w]
     rfl
    refine pure_ (i := 5) (N := some 70) (v := ?_) (a' := ?_) #[true, true, true, true, true, true, false, false, false, false, false, false, false, false, false, false] rfl rfl (any_of HT_.out (by kernel_rfl)) (fun _ _ _ h => h) (Or.inl ⟨by rfl, ?_⟩) ?_ ?_
    rotate_left
    ·intro w'
     go_simp
     with_reducible rfl
    rotate_left
    ·simp only [Act.put, List.setIfInBounds_toArray, List.set_cons_zero, List.set_cons_succ, i64_w, i32_w]
     rfl
    refine pure_ (i := 6) (N := some 71) (v := ?_) (a' := ?_) #[true, true, true, true, true, true, true, false, false, false, false, false, false, false, false, false] rfl rfl (any_of HT_.out (by kernel_rfl)) (fun _ _ _ h => h) (Or.inl ⟨by rfl, ?_⟩) ?_ ?_
    rotate_left
    ·intro w'
     go_simp
     with_reducible rfl
    rotate_left
    ·simp only [Act.put, List.setIfInBounds_toArray, List.set_cons_zero, List.set_cons_succ, i64_w, i32_w]
     rfl
    refine pure_ (i := 11) (N := some 76) (v := ?_) (a' := ?_) #[true, true, true, true, true, true, true, false, false, false, false, true, false, false, false, false] rfl rfl (any_of HT_.out (by kernel_rfl)) (fun _ _ _ h => h) (Or.inl ⟨by rfl, ?_⟩) ?_ ?_
    rotate_left
    ·intro w'
     go_simp
     with_reducible rfl
    rotate_left
    ·simp only [Act.put, List.setIfInBounds_toArray, List.set_cons_zero, List.set_cons_succ, i64_w, i32_w]
     rfl
    refine pure_ (i := 12) (N := some 77) (v := ?_) (a' := ?_) #[true, true, true, true, true, true, true, false, false, false, false, true, true, false, false, false] rfl rfl (any_of HT_.out (by kernel_rfl)) (fun _ _ _ h => h) (Or.inl ⟨by rfl, ?_⟩) ?_ ?_
    rotate_left
    ·intro w'
     go_simp
     with_reducible rfl
    rotate_left
    ·simp only [Act.put, List.setIfInBounds_toArray, List.set_cons_zero, List.set_cons_succ, i64_w, i32_w]
     rfl
    refine take_ (i := 7) (N := some 72) (v := ?_) (a' := ?_) #[true, true, true, true, true, true, true, true, false, false, false, true, true, false, false, false] rfl rfl (take_ofW HT_.out HW_.out (by kernel_rfl)) (fun _ _ _ h => h) (Or.inl ⟨by rfl, ?_⟩) hHeld ?_ ?_
    rotate_left
    ·rintro w' ⟨s0, s1, s2, s3, s4, s5, s6, s7, s8, s9, s10⟩
     go_simp
     with_reducible rfl
    rotate_left
    ·simp only [Act.put, List.setIfInBounds_toArray, List.set_cons_zero, List.set_cons_succ, i64_w, i32_w]
     rfl
    refine take_ (i := 8) (N := some 73) (v := ?_) (a' := ?_) #[true, true, true, true, true, true, true, true, true, false, false, true, true, false, false, false] rfl rfl (take_ofW HT_.out HW_.out (by kernel_rfl)) (fun _ _ _ h => h) (Or.inl ⟨by rfl, ?_⟩) hHeld ?_ ?_
    rotate_left
    ·rintro w' ⟨s0, s1, s2, s3, s4, s5, s6, s7, s8, s9, s10⟩
     go_simp
     with_reducible rfl
    rotate_left
    ·simp only [Act.put, List.setIfInBounds_toArray, List.set_cons_zero, List.set_cons_succ, i64_w, i32_w]
     rfl
    refine take_ (i := 9) (N := some 74) (v := ?_) (a' := ?_) #[true, true, true, true, true, true, true, true, true, true, false, true, true, false, false, false] rfl rfl (take_ofW HT_.out HW_.out (by kernel_rfl)) (fun _ _ _ h => h) (Or.inl ⟨by rfl, ?_⟩) hHeld ?_ ?_
    rotate_left
    ·rintro w' ⟨s0, s1, s2, s3, s4, s5, s6, s7, s8, s9, s10⟩
     go_simp
     with_reducible rfl
    rotate_left
    ·simp only [Act.put, List.setIfInBounds_toArray, List.set_cons_zero, List.set_cons_succ, i64_w, i32_w]
     rfl
    refine take_ (i := 13) (N := some 78) (v := ?_) (a' := ?_) #[true, true, true, true, true, true, true, true, true, true, false, true, true, true, false, false] rfl rfl (take_ofW HT_.out HW_.out (by kernel_rfl)) (fun _ _ _ h => h) (Or.inl ⟨by rfl, ?_⟩) hHeld ?_ ?_
    rotate_left
    ·rintro w' ⟨s0, s1, s2, s3, s4, s5, s6, s7, s8, s9, s10⟩
     go_simp
     with_reducible rfl
    rotate_left
    ·simp only [Act.put, List.setIfInBounds_toArray, List.set_cons_zero, List.set_cons_succ, i64_w, i32_w]
     rfl
    refine one_ (i := 10) (N := some 75) #[true, true, true, true, true, true, true, true, true, true, true, true, true, true, false, false] rfl rfl (one_of HT_.out (by kernel_rfl)) (by decide) (fun K hK => ?_)
    refine goes_ Try.func69 (by kernel_rfl) rfl #[.agg #[.slice A0_0 l0_0.length c0_0, .slice A0_1 l0_1.length c0_1, .slice A0_2 l0_2.length c0_2], .agg #[.slice A1_0 l1_0.length c1_0, .int .i64 a1_1, .int .i64 a1_2], .agg #[.int .u64 a2_0, .int .u64 a2_1, .int .u64 a2_2, .int .u64 a2_3]] (by rfl) rfl rfl F10_ ?_
    with_reducible refine (fit_First.calls k _ _ l0_0 _ _ l0_1 _ _ l0_2 _ _ l1_0 a1_1 a1_2 a2_0 a2_1 a2_2 a2_3 t126 _ ?side1 ?side2 ?side3 ?side4 ?side5 ?side6 ?side7 ?side8 A110.out).mono ?_
    (case side1 => exact F11_)
    (case side2 => exact HC0_0.out)
    (case side3 => exact F12_)
    (case side4 => exact HC0_1.out)
    (case side5 => exact F13_)
    (case side6 => exact HC0_2.out)
    (case side7 => exact F14_)
    (case side8 => exact HC1_0.out)
    rintro e w114 ⟨rfl, hb⟩
    have HS10_ := (hb.cell (World.block_lt_of_cell? _ _ (hHeld.2.2.2.2.2.2.2.2.2.2))).trans (hHeld.2.2.2.2.2.2.2.2.2.2)
    refine ⟨_, rfl, ?_⟩
    have n0_ := Aside0.mk (Kd.R_below F29_ hb)
    have n1_ := Aside0.mk (blk_below (g := gb101) (o := .cells #[.slice A0_0 l0_0.length c0_0, .slice A0_1 l0_1.length c0_1, .slice A0_2 l0_2.length c0_2] 96 (0, 0)) F1_ hb)
    have n2_ := Aside0.mk (blk_below (g := gb102) (o := .cells #[.slice A1_0 l1_0.length c1_0, .int .i64 a1_1, .int .i64 a1_2] 26 (0, 0)) F2_ hb)
    have n3_ := Aside0.mk (blk_below (g := gb103) (o := .cells #[.int .u64 a2_0, .int .u64 a2_1, .int .u64 a2_2, .int .u64 a2_3] 33 (0, 0)) F3_ hb)
    have n4_ := Aside0.mk (blk_below (g := gb117) (o := .cells #[.int .u64 t112, .int .u64 t113, .int .u64 t114, .int .u64 t115] 33 (0, 0)) F6_ hb)
    have n5_ := Aside0.mk (blk_below (g := gb123) (o := .cells #[.int .u64 t118, .int .u64 t119, .int .u64 t120, .int .u64 t121] 33 (0, 0)) F8_ hb)
    have n6_ := Aside0.mk (below_step F5_ hb)
    clear HO108
    clear BK101
    clear BK102
    clear BK103
    clear BK117
    clear BK123
    clear HB
    have HO108 := n0_
    have BK101 := n1_
    have BK102 := n2_
    have BK103 := n3_
    have BK117 := n4_
    have BK123 := n5_
    have HB := n6_
    clear n0_ n1_ n2_ n3_ n4_ n5_ n6_
    (try clear hb)
    (try clear hb2)
    (try clear hk)
    (try clear hi)
    refine hK.out _ _ ⟨(blk_cell BK101.out 0).trans rfl, (blk_cell BK101.out 1).trans rfl, (blk_cell BK101.out 2).trans rfl, (blk_cell BK102.out 0).trans rfl, (blk_cell BK102.out 1).trans rfl, (blk_cell BK102.out 2).trans rfl, (blk_cell BK103.out 0).trans rfl, (blk_cell BK103.out 1).trans rfl, (blk_cell BK103.out 2).trans rfl, (blk_cell BK103.out 3).trans rfl, HS10_⟩ (fun hHeld => ?_)
    clear hK K
    refine norm_ (a' := ?_) ?_ ?_
    rotate_left
    ·show Act.put _ (some 75) _ = _
     simp only [Act.put, List.setIfInBounds_toArray, List.set_cons_zero, List.set_cons_succ, i64_w, i32_w]
     rfl
    refine pure_ (i := 14) (N := some 79) (v := ?_) (a' := ?_) #[true, true, true, true, true, true, true, true, true, true, true, true, true, true, true, false] rfl rfl (any_of HT_.out (by kernel_rfl)) (fun _ _ _ h => h) (Or.inl ⟨by rfl, ?_⟩) ?_ ?_
    rotate_left
    ·intro w'
     go_simp
     with_reducible rfl
    rotate_left
    ·simp only [Act.put, List.setIfInBounds_toArray, List.set_cons_zero, List.set_cons_succ, i64_w, i32_w]
     rfl
    refine pure_ (i := 15) (N := some 80) (v := ?_) (a' := ?_) #[true, true, true, true, true, true, true, true, true, true, true, true, true, true, true, true] rfl rfl (any_of HT_.out (by kernel_rfl)) (fun _ _ _ h => h) (Or.inl ⟨by rfl, ?_⟩) ?_ ?_
    rotate_left
    ·intro w'
     go_simp
     with_reducible rfl
    rotate_left
    ·simp only [Act.put, List.setIfInBounds_toArray, List.set_cons_zero, List.set_cons_succ, i64_w, i32_w]
     rfl
    refine done_ (done_of HT_.out (by kernel_rfl)) ?_
    try go_wp2
    go_meet
    case rel => exact ⟨_, ((t126 != (rd t106 0))), (by first | rfl | (simp; done) | (simp [*]; done)), H', ⟨by first | omega | exact Nat.le_refl _⟩, ⟨F54_⟩, ⟨F47_⟩, ⟨F48_⟩, ⟨F49_⟩, ⟨F50_⟩, ⟨F51_⟩, ⟨F21_⟩⟩
   ·rw [if_neg c111] at H
    exact absurd H (by simp)
  ·have H1 : (dunnagelaw14_FitTight.j0 k t104 t106 true l0_0 l0_1 l0_2 l1_0 a1_1 a1_2 a2_0 a2_1 a2_2 a2_3 t118 t119 t120 t121) = some r := by rw [if_neg (show ¬ (some q125).isNone = true by simp)] at H; exact H
   clear H
   have H := H1
   clear H1
   try simp only [errW_none, errW_some]
   have H' := Aside0.mk H
   clear H
   try go_wp2
   have n0_ : Aside0 (Kd.R (Kd.int .i64) 3 ((((w104.setCell ⟨gb123, 0, none⟩ (.int .u64 t118)).setCell ⟨gb123, 1, none⟩ (.int .u64 t119)).setCell ⟨gb123, 2, none⟩ (.int .u64 t120)).setCell ⟨gb123, 3, none⟩ (.int .u64 t121)) w.heap.size (fun _ => True) (.slice Ao88 t106.length co88) t106) := ⟨F37_⟩
   have n1_ : Aside0 (((((w104.setCell ⟨gb123, 0, none⟩ (.int .u64 t118)).setCell ⟨gb123, 1, none⟩ (.int .u64 t119)).setCell ⟨gb123, 2, none⟩ (.int .u64 t120)).setCell ⟨gb123, 3, none⟩ (.int .u64 t121)).heap[gb101]? = some (.cells #[.slice A0_0 l0_0.length c0_0, .slice A0_1 l0_1.length c0_1, .slice A0_2 l0_2.length c0_2] 96 (0, 0))) := ⟨F31_⟩
   have n2_ : Aside0 (((((w104.setCell ⟨gb123, 0, none⟩ (.int .u64 t118)).setCell ⟨gb123, 1, none⟩ (.int .u64 t119)).setCell ⟨gb123, 2, none⟩ (.int .u64 t120)).setCell ⟨gb123, 3, none⟩ (.int .u64 t121)).heap[gb102]? = some (.cells #[.slice A1_0 l1_0.length c1_0, .int .i64 a1_1, .int .i64 a1_2] 26 (0, 0))) := ⟨F32_⟩
   have n3_ : Aside0 (((((w104.setCell ⟨gb123, 0, none⟩ (.int .u64 t118)).setCell ⟨gb123, 1, none⟩ (.int .u64 t119)).setCell ⟨gb123, 2, none⟩ (.int .u64 t120)).setCell ⟨gb123, 3, none⟩ (.int .u64 t121)).heap[gb103]? = some (.cells #[.int .u64 a2_0, .int .u64 a2_1, .int .u64 a2_2, .int .u64 a2_3] 33 (0, 0))) := ⟨F33_⟩
   have n4_ : Aside0 (((((w104.setCell ⟨gb123, 0, none⟩ (.int .u64 t118)).setCell ⟨gb123, 1, none⟩ (.int .u64 t119)).setCell ⟨gb123, 2, none⟩ (.int .u64 t120)).setCell ⟨gb123, 3, none⟩ (.int .u64 t121)).heap[gb117]? = some (.cells #[.int .u64 t112, .int .u64 t113, .int .u64 t114, .int .u64 t115] 33 (0, 0))) := ⟨F34_⟩
   have n5_ : Aside0 (((((w104.setCell ⟨gb123, 0, none⟩ (.int .u64 t118)).setCell ⟨gb123, 1, none⟩ (.int .u64 t119)).setCell ⟨gb123, 2, none⟩ (.int .u64 t120)).setCell ⟨gb123, 3, none⟩ (.int .u64 t121)).heap[gb123]? = some (.cells #[.int .u64 t118, .int .u64 t119, .int .u64 t120, .int .u64 t121] 33 (0, 0))) := ⟨F28_⟩
   have n6_ : Aside0 (Below w.heap.size w ((((w104.setCell ⟨gb123, 0, none⟩ (.int .u64 t118)).setCell ⟨gb123, 1, none⟩ (.int .u64 t119)).setCell ⟨gb123, 2, none⟩ (.int .u64 t120)).setCell ⟨gb123, 3, none⟩ (.int .u64 t121))) := ⟨F21_⟩
   (try clear HO108)
   (try clear BK101)
   (try clear BK102)
   (try clear BK103)
   (try clear BK117)
   (try clear BK123)
   (try clear HB)
   generalize ((((w104.setCell ⟨gb123, 0, none⟩ (.int .u64 t118)).setCell ⟨gb123, 1, none⟩ (.int .u64 t119)).setCell ⟨gb123, 2, none⟩ (.int .u64 t120)).setCell ⟨gb123, 3, none⟩ (.int .u64 t121)) = w115 at n0_ n1_ n2_ n3_ n4_ n5_ n6_ ⊢
   have HO108 := n0_
   have BK101 := n1_
   have BK102 := n2_
   have BK103 := n3_
   have BK117 := n4_
   have BK123 := n5_
   have HB := n6_
   clear n0_ n1_ n2_ n3_ n4_ n5_ n6_
   have n0_ := Aside0.mk (Kd.R_drew HO108.out)
   have n1_ := Aside0.mk (blk_drew BK101.out)
   have n2_ := Aside0.mk (blk_drew BK102.out)
   have n3_ := Aside0.mk (blk_drew BK103.out)
   have n4_ := Aside0.mk (blk_drew BK117.out)
   have n5_ := Aside0.mk (blk_drew BK123.out)
   have n6_ := Aside0.mk (below_drew1 HB.out)
   clear HO108
   clear BK101
   clear BK102
   clear BK103
   clear BK117
   clear BK123
   clear HB
   have HO108 := n0_
   have BK101 := n1_
   have BK102 := n2_
   have BK103 := n3_
   have BK117 := n4_
   have BK123 := n5_
   have HB := n6_
   clear n0_ n1_ n2_ n3_ n4_ n5_ n6_
   refine start_ (n := 16) (S := fun w' => True) (ds := []) #[false, false, false, false, false, false, false, false, false, false, false, false, false, false, false, false] (by kernel_rfl) rfl rfl trivial (fun hHeld => ?_); refine with_tabW dunnagelaw14_FitTight.tab10 dunnagelaw14_FitTight.bits10 (fun HT_ HW_ => ?_)
   generalize w115.drew = w116 at HO108 BK101 BK102 BK103 BK117 BK123 HB hHeld ⊢
   refine pure_ (i := 0) (N := some 65) (v := ?_) (a' := ?_) #[true, false, false, false, false, false, false, false, false, false, false, false, false, false, false, false] rfl rfl (any_of HT_.out (by kernel_rfl)) (fun _ _ _ h => h) (Or.inl ⟨by rfl, ?_⟩) ?_ ?_
   rotate_left
   ·intro w'
    go_simp
    with_reducible rfl
   rotate_left
   ·simp only [Act.put, List.setIfInBounds_toArray, List.set_cons_zero, List.set_cons_succ, i64_w, i32_w]
    rfl
   refine pure_ (i := 1) (N := some 66) (v := ?_) (a' := ?_) #[true, true, false, false, false, false, false, false, false, false, false, false, false, false, false, false] rfl rfl (any_of HT_.out (by kernel_rfl)) (fun _ _ _ h => h) (Or.inl ⟨by rfl, ?_⟩) ?_ ?_
   rotate_left
   ·intro w'
    go_simp
    with_reducible rfl
   rotate_left
   ·simp only [Act.put, List.setIfInBounds_toArray, List.set_cons_zero, List.set_cons_succ, i64_w, i32_w]
    rfl
   refine pure_ (i := 2) (N := some 67) (v := ?_) (a' := ?_) #[true, true, true, false, false, false, false, false, false, false, false, false, false, false, false, false] rfl rfl (any_of HT_.out (by kernel_rfl)) (fun _ _ _ h => h) (Or.inl ⟨by rfl, ?_⟩) ?_ ?_
   rotate_left
   ·intro w'
    go_simp
    with_reducible rfl
   rotate_left
   ·simp only [Act.put, List.setIfInBounds_toArray, List.set_cons_zero, List.set_cons_succ, i64_w, i32_w]
    rfl
   refine pure_ (i := 3) (N := some 68) (v := ?_) (a' := ?_) #[true, true, true, true, false, false, false, false, false, false, false, false, false, false, false, false] rfl rfl (any_of HT_.out (by kernel_rfl)) (fun _ _ _ h => h) (Or.inl ⟨by rfl, ?_⟩) ?_ ?_
   rotate_left
   ·intro w'
    go_simp
    with_reducible rfl
   rotate_left
   ·simp only [Act.put, List.setIfInBounds_toArray, List.set_cons_zero, List.set_cons_succ, i64_w, i32_w]
    rfl
   refine pure_ (i := 4) (N := some 69) (v := ?_) (a' := ?_) #[true, true, true, true, true, false, false, false, false, false, false, false, false, false, false, false] rfl rfl (any_of HT_.out (by kernel_rfl)) (fun _ _ _ h => h) (Or.inl ⟨by rfl, ?_⟩) ?_ ?_
   rotate_left
   ·intro w'
    go_simp
    with_reducible rfl
   rotate_left
   ·simp only [Act.put, List.setIfInBounds_toArray, List.set_cons_zero, List.set_cons_succ, i64_w, i32_w]
    rfl
   refine pure_ (i := 5) (N := some 70) (v := ?_) (a' := ?_) #[true, true, true, true, true, true, false, false, false, false, false, false, false, false, false, false] rfl rfl (any_of HT_.out (by kernel_rfl)) (fun _ _ _ h => h) (Or.inl ⟨by rfl, ?_⟩) ?_ ?_
   rotate_left
   ·intro w'
    go_simp
    with_reducible rfl
   rotate_left
   ·simp only [Act.put, List.setIfInBounds_toArray, List.set_cons_zero, List.set_cons_succ, i64_w, i32_w]
    rfl
   refine pure_ (i := 6) (N := some 71) (v := ?_) (a' := ?_) #[true, true, true, true, true, true, true, false, false, false, false, false, false, false, false, false] rfl rfl (any_of HT_.out (by kernel_rfl)) (fun _ _ _ h => h) (Or.inl ⟨by rfl, ?_⟩) ?_ ?_
   rotate_left
   ·intro w'
    go_simp
    with_reducible rfl
   rotate_left
   ·simp only [Act.put, List.setIfInBounds_toArray, List.set_cons_zero, List.set_cons_succ, i64_w, i32_w]
    rfl
   refine pure_ (i := 7) (N := some 72) (v := undef) (a' := ?_) #[true, true, true, true, true, true, true, true, false, false, false, false, false, false, false, false] rfl rfl (any_of HT_.out (by kernel_rfl)) (fun _ _ _ h => h) (Or.inr ⟨by rfl, rfl⟩) ?_ ?_
   rotate_left
   ·simp only [Act.put, List.setIfInBounds_toArray, List.set_cons_zero, List.set_cons_succ, i64_w, i32_w]
    rfl
   refine pure_ (i := 8) (N := some 73) (v := undef) (a' := ?_) #[true, true, true, true, true, true, true, true, true, false, false, false, false, false, false, false] rfl rfl (any_of HT_.out (by kernel_rfl)) (fun _ _ _ h => h) (Or.inr ⟨by rfl, rfl⟩) ?_ ?_
   rotate_left
   ·simp only [Act.put, List.setIfInBounds_toArray, List.set_cons_zero, List.set_cons_succ, i64_w, i32_w]
    rfl
   refine pure_ (i := 9) (N := some 74) (v := undef) (a' := ?_) #[true, true, true, true, true, true, true, true, true, true, false, false, false, false, false, false] rfl rfl (any_of HT_.out (by kernel_rfl)) (fun _ _ _ h => h) (Or.inr ⟨by rfl, rfl⟩) ?_ ?_
   rotate_left
   ·simp only [Act.put, List.setIfInBounds_toArray, List.set_cons_zero, List.set_cons_succ, i64_w, i32_w]
    rfl
   refine pure_ (i := 10) (N := some 75) (v := undef) (a' := ?_) #[true, true, true, true, true, true, true, true, true, true, true, false, false, false, false, false] rfl rfl (any_of HT_.out (by kernel_rfl)) (fun _ _ _ h => h) (Or.inr ⟨by rfl, rfl⟩) ?_ ?_
   rotate_left
   ·simp only [Act.put, List.setIfInBounds_toArray, List.set_cons_zero, List.set_cons_succ, i64_w, i32_w]
    rfl
   refine pure_ (i := 11) (N := some 76) (v := undef) (a' := ?_) #[true, true, true, true, true, true, true, true, true, true, true, true, false, false, false, false] rfl rfl (any_of HT_.out (by kernel_rfl)) (fun _ _ _ h => h) (Or.inr ⟨by rfl, rfl⟩) ?_ ?_
   rotate_left
   ·simp only [Act.put, List.setIfInBounds_toArray, List.set_cons_zero, List.set_cons_succ, i64_w, i32_w]
    rfl
   refine pure_ (i := 12) (N := some 77) (v := undef) (a' := ?_) #[true, true, true, true, true, true, true, true, true, true, true, true, true, false, false, false] rfl rfl (any_of HT_.out (by kernel_rfl)) (fun _ _ _ h => h) (Or.inr ⟨by rfl, rfl⟩) ?_ ?_
   rotate_left
   ·simp only [Act.put, List.setIfInBounds_toArray, List.set_cons_zero, List.set_cons_succ, i64_w, i32_w]
    rfl
   refine pure_ (i := 13) (N := some 78) (v := undef) (a' := ?_) #[true, true, true, true, true, true, true, true, true, true, true, true, true, true, false, false] rfl rfl (any_of HT_.out (by kernel_rfl)) (fun _ _ _ h => h) (Or.inr ⟨by rfl, rfl⟩) ?_ ?_
   rotate_left
   ·simp only [Act.put, List.setIfInBounds_toArray, List.set_cons_zero, List.set_cons_succ, i64_w, i32_w]
    rfl
   refine pure_ (i := 14) (N := some 79) (v := undef) (a' := ?_) #[true, true, true, true, true, true, true, true, true, true, true, true, true, true, true, false] rfl rfl (any_of HT_.out (by kernel_rfl)) (fun _ _ _ h => h) (Or.inr ⟨by rfl, rfl⟩) ?_ ?_
   rotate_left
   ·simp only [Act.put, List.setIfInBounds_toArray, List.set_cons_zero, List.set_cons_succ, i64_w, i32_w]
    rfl
   refine pure_ (i := 15) (N := some 80) (v := ?_) (a' := ?_) #[true, true, true, true, true, true, true, true, true, true, true, true, true, true, true, true] rfl rfl (any_of HT_.out (by kernel_rfl)) (fun _ _ _ h => h) (Or.inl ⟨by rfl, ?_⟩) ?_ ?_
   rotate_left
   ·intro w'
    go_simp
    with_reducible rfl
   rotate_left
   ·simp only [Act.put, List.setIfInBounds_toArray, List.set_cons_zero, List.set_cons_succ, i64_w, i32_w]
    rfl
   refine done_ (done_of HT_.out (by kernel_rfl)) ?_
   try go_wp2
   go_meet
   case rel => exact ⟨_, (true), (by first | rfl | (simp; done) | (simp [*]; done)), H', ⟨by first | omega | exact Nat.le_refl _⟩, ⟨F54_⟩, ⟨F47_⟩, ⟨F48_⟩, ⟨F49_⟩, ⟨F50_⟩, ⟨F51_⟩, ⟨F21_⟩⟩) : p := h
theorem L2_ {p : Prop} (h : p := by
  intro hCont
  refine two_ (i := 5) (j := 10) (Ni := some 55) (Nj := some 10) #[true, true, true, true, true, true, false, false, false, false, false, false, false] #[true, true, true, true, true, false, false, false, false, false, true, false, false] rfl rfl rfl rfl (two_of HT_.out (by kernel_rfl)) (by decide) (by decide) (fun K hK => ?_) (fun K hK => ?_)
  ·skip
   refine goes_ Try.func71 (by kernel_rfl) rfl #[.agg #[.slice A0_0 l0_0.length c0_0, .slice A0_1 l0_1.length c0_1, .slice A0_2 l0_2.length c0_2], .agg #[.slice A1_0 l1_0.length c1_0, .int .i64 a1_1, .int .i64 a1_2], .agg #[.int .u64 a2_0, .int .u64 a2_1, .int .u64 a2_2, .int .u64 a2_3]] (by rfl) rfl rfl F10_ ?_
   with_reducible refine (fit_Best.calls k _ _ l0_0 _ _ l0_1 _ _ l0_2 _ _ l1_0 a1_1 a1_2 a2_0 a2_1 a2_2 a2_3 t111 _ ?side1 ?side2 ?side3 ?side4 ?side5 ?side6 ?side7 ?side8 A70.out).mono ?_
   (case side1 => exact F11_)
   (case side2 => exact HC0_0.out)
   (case side3 => exact F12_)
   (case side4 => exact HC0_1.out)
   (case side5 => exact F13_)
   (case side6 => exact HC0_2.out)
   (case side7 => exact F14_)
   (case side8 => exact HC1_0.out)
   rintro e w90 ⟨rfl, hb⟩
   refine ⟨_, rfl, ?_⟩
   have n0_ := Aside0.mk (Kd.R_below F29_ hb)
   have n1_ := Aside0.mk (blk_below (g := gb101) (o := .cells #[.slice A0_0 l0_0.length c0_0, .slice A0_1 l0_1.length c0_1, .slice A0_2 l0_2.length c0_2] 96 (0, 0)) F1_ hb)
   have n2_ := Aside0.mk (blk_below (g := gb102) (o := .cells #[.slice A1_0 l1_0.length c1_0, .int .i64 a1_1, .int .i64 a1_2] 26 (0, 0)) F2_ hb)
   have n3_ := Aside0.mk (blk_below (g := gb103) (o := .cells #[.int .u64 a2_0, .int .u64 a2_1, .int .u64 a2_2, .int .u64 a2_3] 33 (0, 0)) F3_ hb)
   have n4_ := Aside0.mk (below_step F7_ hb)
   clear HO108
   clear BK101
   clear BK102
   clear BK103
   clear HB
   have HO108 := n0_
   have BK101 := n1_
   have BK102 := n2_
   have BK103 := n3_
   have HB := n4_
   clear n0_ n1_ n2_ n3_ n4_
   (try clear hb)
   (try clear hb2)
   (try clear hk)
   (try clear hi)
   refine hK.out _ _ ⟨(blk_cell BK101.out 0).trans rfl, (blk_cell BK101.out 1).trans rfl, (blk_cell BK101.out 2).trans rfl, (blk_cell BK102.out 0).trans rfl, (blk_cell BK102.out 1).trans rfl, (blk_cell BK102.out 2).trans rfl, (blk_cell BK103.out 0).trans rfl, (blk_cell BK103.out 1).trans rfl, (blk_cell BK103.out 2).trans rfl, (blk_cell BK103.out 3).trans rfl⟩ (fun hHeld => ?_)
   clear hK K
   refine norm_ (a' := ?_) ?_ ?_
   rotate_left
   ·show Act.put _ (some 55) _ = _
    simp only [Act.put, List.setIfInBounds_toArray, List.set_cons_zero, List.set_cons_succ, i64_w, i32_w]
    rfl
   refine two_ (i := 6) (j := 10) (Ni := some 56) (Nj := some 10) #[true, true, true, true, true, true, true, false, false, false, false, false, false] #[true, true, true, true, true, true, false, false, false, false, true, false, false] rfl rfl rfl rfl (two_of HT_.out (by kernel_rfl)) (by decide) (by decide) (fun K hK => ?_) (fun K hK => ?_)
   ·skip
    refine goes_ Try.func72 (by kernel_rfl) rfl #[.agg #[.slice A0_0 l0_0.length c0_0, .slice A0_1 l0_1.length c0_1, .slice A0_2 l0_2.length c0_2], .agg #[.slice A1_0 l1_0.length c1_0, .int .i64 a1_1, .int .i64 a1_2], .int .i64 t111] (by rfl) rfl rfl F10_ ?_
    with_reducible refine (room_Rest.calls k _ _ l0_0 _ _ l0_1 _ _ l0_2 _ _ l1_0 a1_1 a1_2 t111 t112 t113 t114 t115 t116 _ ?side1 ?side2 ?side3 ?side4 ?side5 ?side6 ?side7 ?side8 A71.out).mono ?_
    (case side1 => exact F11_)
    (case side2 => exact HC0_0.out)
    (case side3 => exact F12_)
    (case side4 => exact HC0_1.out)
    (case side5 => exact F13_)
    (case side6 => exact HC0_2.out)
    (case side7 => exact F14_)
    (case side8 => exact HC1_0.out)
    rintro e w91 ⟨rfl, hb⟩
    refine ⟨_, rfl, ?_⟩
    have n0_ := Aside0.mk (Kd.R_below F29_ hb)
    have n1_ := Aside0.mk (blk_below (g := gb101) (o := .cells #[.slice A0_0 l0_0.length c0_0, .slice A0_1 l0_1.length c0_1, .slice A0_2 l0_2.length c0_2] 96 (0, 0)) F1_ hb)
    have n2_ := Aside0.mk (blk_below (g := gb102) (o := .cells #[.slice A1_0 l1_0.length c1_0, .int .i64 a1_1, .int .i64 a1_2] 26 (0, 0)) F2_ hb)
    have n3_ := Aside0.mk (blk_below (g := gb103) (o := .cells #[.int .u64 a2_0, .int .u64 a2_1, .int .u64 a2_2, .int .u64 a2_3] 33 (0, 0)) F3_ hb)
    have n4_ := Aside0.mk (below_step F7_ hb)
    clear HO108
    clear BK101
    clear BK102
    clear BK103
    clear HB
    have HO108 := n0_
    have BK101 := n1_
    have BK102 := n2_
    have BK103 := n3_
    have HB := n4_
    clear n0_ n1_ n2_ n3_ n4_
    (try clear hb)
    (try clear hb2)
    (try clear hk)
    (try clear hi)
    (try simp only [errW_none, errW_some])
    refine hK.out _ _ ⟨(blk_cell BK101.out 0).trans rfl, (blk_cell BK101.out 1).trans rfl, (blk_cell BK101.out 2).trans rfl, (blk_cell BK102.out 0).trans rfl, (blk_cell BK102.out 1).trans rfl, (blk_cell BK102.out 2).trans rfl, (blk_cell BK103.out 0).trans rfl, (blk_cell BK103.out 1).trans rfl, (blk_cell BK103.out 2).trans rfl, (blk_cell BK103.out 3).trans rfl⟩ (fun hHeld => ?_)
    clear hK K
    refine norm_ (a' := ?_) ?_ ?_
    rotate_left
    ·show Act.put _ (some 56) _ = _
     simp only [Act.put, List.setIfInBounds_toArray, List.set_cons_zero, List.set_cons_succ, i64_w, i32_w]
     rfl
    refine pure_ (i := 7) (N := some 49) (v := ?_) (a' := ?_) #[true, true, true, true, true, true, true, true, false, false, false, false, false] rfl rfl (any_of HT_.out (by kernel_rfl)) (fun _ _ _ h => h) (Or.inl ⟨by rfl, ?_⟩) ?_ ?_
    rotate_left
    ·intro w'
     go_simp
     with_reducible rfl
    rotate_left
    ·simp only [Act.put, List.setIfInBounds_toArray, List.set_cons_zero, List.set_cons_succ, i64_w, i32_w]
     rfl
    refine pure_ (i := 8) (N := some 57) (v := ?_) (a' := ?_) #[true, true, true, true, true, true, true, true, true, false, false, false, false] rfl rfl (any_of HT_.out (by kernel_rfl)) (fun _ _ _ h => h) (Or.inl ⟨by rfl, ?_⟩) ?_ ?_
    rotate_left
    ·intro w'
     go_simp
     with_reducible rfl
    rotate_left
    ·simp only [Act.put, List.setIfInBounds_toArray, List.set_cons_zero, List.set_cons_succ, i64_w, i32_w]
     rfl
    refine pure_ (i := 9) (N := some 58) (v := ?_) (a' := ?_) #[true, true, true, true, true, true, true, true, true, true, false, false, false] rfl rfl (any_of HT_.out (by kernel_rfl)) (fun _ _ _ h => h) (Or.inl ⟨by rfl, ?_⟩) ?_ ?_
    rotate_left
    ·intro w'
     go_simp
     with_reducible rfl
    rotate_left
    ·simp only [Act.put, List.setIfInBounds_toArray, List.set_cons_zero, List.set_cons_succ, i64_w, i32_w]
     rfl
    refine one_ (i := 10) (N := some 10) #[true, true, true, true, true, true, true, true, true, true, true, false, false] rfl rfl (one_of HT_.out (by kernel_rfl)) (by decide) (fun K hK => ?_)
    refine box_step ?hg (N := 10) ?hd (cs := #[.int .u64 0, .int .u64 0, .int .u64 0, .int .u64 0]) (t := 33) ?hr ?_; (case hd => rfl); (case hg => rfl); (case hr => first | (go_simp; done) | (go_simp; rfl))
    intro gb117 hg w92 hbox hb
    have n0_ := Aside0.mk (Kd.R_below F29_ hb)
    have n1_ := Aside0.mk (blk_below (g := gb101) (o := .cells #[.slice A0_0 l0_0.length c0_0, .slice A0_1 l0_1.length c0_1, .slice A0_2 l0_2.length c0_2] 96 (0, 0)) F1_ hb)
    have n2_ := Aside0.mk (blk_below (g := gb102) (o := .cells #[.slice A1_0 l1_0.length c1_0, .int .i64 a1_1, .int .i64 a1_2] 26 (0, 0)) F2_ hb)
    have n3_ := Aside0.mk (blk_below (g := gb103) (o := .cells #[.int .u64 a2_0, .int .u64 a2_1, .int .u64 a2_2, .int .u64 a2_3] 33 (0, 0)) F3_ hb)
    have n4_ := Aside0.mk (below_step F7_ hb)
    have n5_ := Aside0.mk (hbox)
    have n6_ := Aside0.mk ((by rw [hg]; exact (below_size F7_) : w.heap.size ≤ gb117))
    have n7_ := Aside0.mk ((by rw [hg]; exact (below_size F7_) : w.heap.size ≤ gb117))
    have n8_ := Aside0.mk ((by rw [hg]; exact Nat.ne_of_lt (blk_lt (g := gb101) (o := .cells #[.slice A0_0 l0_0.length c0_0, .slice A0_1 l0_1.length c0_1, .slice A0_2 l0_2.length c0_2] 96 (0, 0)) F1_) : gb101 ≠ gb117))
    have n9_ := Aside0.mk ((by rw [hg]; exact Nat.ne_of_gt (blk_lt (g := gb101) (o := .cells #[.slice A0_0 l0_0.length c0_0, .slice A0_1 l0_1.length c0_1, .slice A0_2 l0_2.length c0_2] 96 (0, 0)) F1_) : gb117 ≠ gb101))
    have n10_ := Aside0.mk ((by rw [hg]; exact Nat.ne_of_lt (blk_lt (g := gb102) (o := .cells #[.slice A1_0 l1_0.length c1_0, .int .i64 a1_1, .int .i64 a1_2] 26 (0, 0)) F2_) : gb102 ≠ gb117))
    have n11_ := Aside0.mk ((by rw [hg]; exact Nat.ne_of_gt (blk_lt (g := gb102) (o := .cells #[.slice A1_0 l1_0.length c1_0, .int .i64 a1_1, .int .i64 a1_2] 26 (0, 0)) F2_) : gb117 ≠ gb102))
    have n12_ := Aside0.mk ((by rw [hg]; exact Nat.ne_of_lt (blk_lt (g := gb103) (o := .cells #[.int .u64 a2_0, .int .u64 a2_1, .int .u64 a2_2, .int .u64 a2_3] 33 (0, 0)) F3_) : gb103 ≠ gb117))
    have n13_ := Aside0.mk ((by rw [hg]; exact Nat.ne_of_gt (blk_lt (g := gb103) (o := .cells #[.int .u64 a2_0, .int .u64 a2_1, .int .u64 a2_2, .int .u64 a2_3] 33 (0, 0)) F3_) : gb117 ≠ gb103))
    clear HO108
    clear BK101
    clear BK102
    clear BK103
    clear HB
    have HO108 := n0_
    have BK101 := n1_
    have BK102 := n2_
    have BK103 := n3_
    have HB := n4_
    have BK117 := n5_
    have GW117 := n6_
    have GE117 := n7_
    have NB101_117 := n8_
    have NB117_101 := n9_
    have NB102_117 := n10_
    have NB117_102 := n11_
    have NB103_117 := n12_
    have NB117_103 := n13_
    clear n0_ n1_ n2_ n3_ n4_ n5_ n6_ n7_ n8_ n9_ n10_ n11_ n12_ n13_
    clear hb hbox hg
    refine hK.out _ _ ⟨(blk_cell BK101.out 0).trans rfl, (blk_cell BK101.out 1).trans rfl, (blk_cell BK101.out 2).trans rfl, (blk_cell BK102.out 0).trans rfl, (blk_cell BK102.out 1).trans rfl, (blk_cell BK102.out 2).trans rfl, (blk_cell BK103.out 0).trans rfl, (blk_cell BK103.out 1).trans rfl, (blk_cell BK103.out 2).trans rfl, (blk_cell BK103.out 3).trans rfl⟩ (fun hHeld => ?_)
    clear hK K
    refine norm_ (a' := ?_) ?_ ?_
    rotate_left
    ·show Act.put _ (some 10) _ = _
     simp only [Act.put, List.setIfInBounds_toArray, List.set_cons_zero, List.set_cons_succ, i64_w, i32_w]
     rfl
    exact norm_ F35_ (hCont (gb117) _ ⟨hHeld, F29_, F1_, F2_, F3_, F6_, GW117.out, GE117.out, NB101_117.out, NB117_101.out, NB102_117.out, NB117_102.out, NB103_117.out, NB117_103.out, F19_⟩)
   ·skip
    refine box_step ?hg (N := 10) ?hd (cs := #[.int .u64 0, .int .u64 0, .int .u64 0, .int .u64 0]) (t := 33) ?hr ?_; (case hd => rfl); (case hg => rfl); (case hr => first | (go_simp; done) | (go_simp; rfl))
    intro gb117 hg w91 hbox hb
    have n0_ := Aside0.mk (Kd.R_below F29_ hb)
    have n1_ := Aside0.mk (blk_below (g := gb101) (o := .cells #[.slice A0_0 l0_0.length c0_0, .slice A0_1 l0_1.length c0_1, .slice A0_2 l0_2.length c0_2] 96 (0, 0)) F1_ hb)
    have n2_ := Aside0.mk (blk_below (g := gb102) (o := .cells #[.slice A1_0 l1_0.length c1_0, .int .i64 a1_1, .int .i64 a1_2] 26 (0, 0)) F2_ hb)
    have n3_ := Aside0.mk (blk_below (g := gb103) (o := .cells #[.int .u64 a2_0, .int .u64 a2_1, .int .u64 a2_2, .int .u64 a2_3] 33 (0, 0)) F3_ hb)
    have n4_ := Aside0.mk (below_step F7_ hb)
    have n5_ := Aside0.mk (hbox)
    have n6_ := Aside0.mk ((by rw [hg]; exact (below_size F7_) : w.heap.size ≤ gb117))
    have n7_ := Aside0.mk ((by rw [hg]; exact (below_size F7_) : w.heap.size ≤ gb117))
    have n8_ := Aside0.mk ((by rw [hg]; exact Nat.ne_of_lt (blk_lt (g := gb101) (o := .cells #[.slice A0_0 l0_0.length c0_0, .slice A0_1 l0_1.length c0_1, .slice A0_2 l0_2.length c0_2] 96 (0, 0)) F1_) : gb101 ≠ gb117))
    have n9_ := Aside0.mk ((by rw [hg]; exact Nat.ne_of_gt (blk_lt (g := gb101) (o := .cells #[.slice A0_0 l0_0.length c0_0, .slice A0_1 l0_1.length c0_1, .slice A0_2 l0_2.length c0_2] 96 (0, 0)) F1_) : gb117 ≠ gb101))
    have n10_ := Aside0.mk ((by rw [hg]; exact Nat.ne_of_lt (blk_lt (g := gb102) (o := .cells #[.slice A1_0 l1_0.length c1_0, .int .i64 a1_1, .int .i64 a1_2] 26 (0, 0)) F2_) : gb102 ≠ gb117))
    have n11_ := Aside0.mk ((by rw [hg]; exact Nat.ne_of_gt (blk_lt (g := gb102) (o := .cells #[.slice A1_0 l1_0.length c1_0, .int .i64 a1_1, .int .i64 a1_2] 26 (0, 0)) F2_) : gb117 ≠ gb102))
    have n12_ := Aside0.mk ((by rw [hg]; exact Nat.ne_of_lt (blk_lt (g := gb103) (o := .cells #[.int .u64 a2_0, .int .u64 a2_1, .int .u64 a2_2, .int .u64 a2_3] 33 (0, 0)) F3_) : gb103 ≠ gb117))
    have n13_ := Aside0.mk ((by rw [hg]; exact Nat.ne_of_gt (blk_lt (g := gb103) (o := .cells #[.int .u64 a2_0, .int .u64 a2_1, .int .u64 a2_2, .int .u64 a2_3] 33 (0, 0)) F3_) : gb117 ≠ gb103))
    clear HO108
    clear BK101
    clear BK102
    clear BK103
    clear HB
    have HO108 := n0_
    have BK101 := n1_
    have BK102 := n2_
    have BK103 := n3_
    have HB := n4_
    have BK117 := n5_
    have GW117 := n6_
    have GE117 := n7_
    have NB101_117 := n8_
    have NB117_101 := n9_
    have NB102_117 := n10_
    have NB117_102 := n11_
    have NB103_117 := n12_
    have NB117_103 := n13_
    clear n0_ n1_ n2_ n3_ n4_ n5_ n6_ n7_ n8_ n9_ n10_ n11_ n12_ n13_
    clear hb hbox hg
    refine hK.out _ _ ⟨(blk_cell BK101.out 0).trans rfl, (blk_cell BK101.out 1).trans rfl, (blk_cell BK101.out 2).trans rfl, (blk_cell BK102.out 0).trans rfl, (blk_cell BK102.out 1).trans rfl, (blk_cell BK102.out 2).trans rfl, (blk_cell BK103.out 0).trans rfl, (blk_cell BK103.out 1).trans rfl, (blk_cell BK103.out 2).trans rfl, (blk_cell BK103.out 3).trans rfl⟩ (fun hHeld => ?_)
    clear hK K
    refine norm_ (a' := ?_) ?_ ?_
    rotate_left
    ·show Act.put _ (some 10) _ = _
     simp only [Act.put, List.setIfInBounds_toArray, List.set_cons_zero, List.set_cons_succ, i64_w, i32_w]
     rfl
    refine one_ (i := 6) (N := some 56) #[true, true, true, true, true, true, true, false, false, false, true, false, false] rfl rfl (one_of HT_.out (by kernel_rfl)) (by decide) (fun K hK => ?_)
    refine goes_ Try.func72 (by kernel_rfl) rfl #[.agg #[.slice A0_0 l0_0.length c0_0, .slice A0_1 l0_1.length c0_1, .slice A0_2 l0_2.length c0_2], .agg #[.slice A1_0 l1_0.length c1_0, .int .i64 a1_1, .int .i64 a1_2], .int .i64 t111] (by rfl) rfl rfl F10_ ?_
    with_reducible refine (room_Rest.calls k _ _ l0_0 _ _ l0_1 _ _ l0_2 _ _ l1_0 a1_1 a1_2 t111 t112 t113 t114 t115 t116 _ ?side1 ?side2 ?side3 ?side4 ?side5 ?side6 ?side7 ?side8 A71.out).mono ?_
    (case side1 => exact F11_)
    (case side2 => exact HC0_0.out)
    (case side3 => exact F12_)
    (case side4 => exact HC0_1.out)
    (case side5 => exact F13_)
    (case side6 => exact HC0_2.out)
    (case side7 => exact F14_)
    (case side8 => exact HC1_0.out)
    rintro e w92 ⟨rfl, hb⟩
    refine ⟨_, rfl, ?_⟩
    have n0_ := Aside0.mk (Kd.R_below F29_ hb)
    have n1_ := Aside0.mk (blk_below (g := gb101) (o := .cells #[.slice A0_0 l0_0.length c0_0, .slice A0_1 l0_1.length c0_1, .slice A0_2 l0_2.length c0_2] 96 (0, 0)) F1_ hb)
    have n2_ := Aside0.mk (blk_below (g := gb102) (o := .cells #[.slice A1_0 l1_0.length c1_0, .int .i64 a1_1, .int .i64 a1_2] 26 (0, 0)) F2_ hb)
    have n3_ := Aside0.mk (blk_below (g := gb103) (o := .cells #[.int .u64 a2_0, .int .u64 a2_1, .int .u64 a2_2, .int .u64 a2_3] 33 (0, 0)) F3_ hb)
    have n4_ := Aside0.mk (blk_below (g := gb117) (o := .cells #[.int .u64 0, .int .u64 0, .int .u64 0, .int .u64 0] 33 (0, 0)) F6_ hb)
    have n5_ := Aside0.mk (below_step F19_ hb)
    clear HO108
    clear BK101
    clear BK102
    clear BK103
    clear BK117
    clear HB
    have HO108 := n0_
    have BK101 := n1_
    have BK102 := n2_
    have BK103 := n3_
    have BK117 := n4_
    have HB := n5_
    clear n0_ n1_ n2_ n3_ n4_ n5_
    (try clear hb)
    (try clear hb2)
    (try clear hk)
    (try clear hi)
    (try simp only [errW_none, errW_some])
    refine hK.out _ _ ⟨(blk_cell BK101.out 0).trans rfl, (blk_cell BK101.out 1).trans rfl, (blk_cell BK101.out 2).trans rfl, (blk_cell BK102.out 0).trans rfl, (blk_cell BK102.out 1).trans rfl, (blk_cell BK102.out 2).trans rfl, (blk_cell BK103.out 0).trans rfl, (blk_cell BK103.out 1).trans rfl, (blk_cell BK103.out 2).trans rfl, (blk_cell BK103.out 3).trans rfl⟩ (fun hHeld => ?_)
    clear hK K
    refine norm_ (a' := ?_) ?_ ?_
    rotate_left
    ·show Act.put _ (some 56) _ = _
     simp only [Act.put, List.setIfInBounds_toArray, List.set_cons_zero, List.set_cons_succ, i64_w, i32_w]
     rfl
    refine pure_ (i := 7) (N := some 49) (v := ?_) (a' := ?_) #[true, true, true, true, true, true, true, true, false, false, true, false, false] rfl rfl (any_of HT_.out (by kernel_rfl)) (fun _ _ _ h => h) (Or.inl ⟨by rfl, ?_⟩) ?_ ?_
    rotate_left
    ·intro w'
     go_simp
     with_reducible rfl
    rotate_left
    ·simp only [Act.put, List.setIfInBounds_toArray, List.set_cons_zero, List.set_cons_succ, i64_w, i32_w]
     rfl
    refine pure_ (i := 8) (N := some 57) (v := ?_) (a' := ?_) #[true, true, true, true, true, true, true, true, true, false, true, false, false] rfl rfl (any_of HT_.out (by kernel_rfl)) (fun _ _ _ h => h) (Or.inl ⟨by rfl, ?_⟩) ?_ ?_
    rotate_left
    ·intro w'
     go_simp
     with_reducible rfl
    rotate_left
    ·simp only [Act.put, List.setIfInBounds_toArray, List.set_cons_zero, List.set_cons_succ, i64_w, i32_w]
     rfl
    refine pure_ (i := 9) (N := some 58) (v := ?_) (a' := ?_) #[true, true, true, true, true, true, true, true, true, true, true, false, false] rfl rfl (any_of HT_.out (by kernel_rfl)) (fun _ _ _ h => h) (Or.inl ⟨by rfl, ?_⟩) ?_ ?_
    rotate_left
    ·intro w'
     go_simp
     with_reducible rfl
    rotate_left
    ·simp only [Act.put, List.setIfInBounds_toArray, List.set_cons_zero, List.set_cons_succ, i64_w, i32_w]
     rfl
    exact norm_ F35_ (hCont (gb117) _ ⟨hHeld, F29_, F1_, F2_, F3_, F6_, GW117.out, GE117.out, NB101_117.out, NB117_101.out, NB102_117.out, NB117_102.out, NB103_117.out, NB117_103.out, F19_⟩)
  ·skip
   refine box_step ?hg (N := 10) ?hd (cs := #[.int .u64 0, .int .u64 0, .int .u64 0, .int .u64 0]) (t := 33) ?hr ?_; (case hd => rfl); (case hg => rfl); (case hr => first | (go_simp; done) | (go_simp; rfl))
   intro gb117 hg w90 hbox hb
   have n0_ := Aside0.mk (Kd.R_below F29_ hb)
   have n1_ := Aside0.mk (blk_below (g := gb101) (o := .cells #[.slice A0_0 l0_0.length c0_0, .slice A0_1 l0_1.length c0_1, .slice A0_2 l0_2.length c0_2] 96 (0, 0)) F1_ hb)
   have n2_ := Aside0.mk (blk_below (g := gb102) (o := .cells #[.slice A1_0 l1_0.length c1_0, .int .i64 a1_1, .int .i64 a1_2] 26 (0, 0)) F2_ hb)
   have n3_ := Aside0.mk (blk_below (g := gb103) (o := .cells #[.int .u64 a2_0, .int .u64 a2_1, .int .u64 a2_2, .int .u64 a2_3] 33 (0, 0)) F3_ hb)
   have n4_ := Aside0.mk (below_step F7_ hb)
   have n5_ := Aside0.mk (hbox)
   have n6_ := Aside0.mk ((by rw [hg]; exact (below_size F7_) : w.heap.size ≤ gb117))
   have n7_ := Aside0.mk ((by rw [hg]; exact (below_size F7_) : w.heap.size ≤ gb117))
   have n8_ := Aside0.mk ((by rw [hg]; exact Nat.ne_of_lt (blk_lt (g := gb101) (o := .cells #[.slice A0_0 l0_0.length c0_0, .slice A0_1 l0_1.length c0_1, .slice A0_2 l0_2.length c0_2] 96 (0, 0)) F1_) : gb101 ≠ gb117))
   have n9_ := Aside0.mk ((by rw [hg]; exact Nat.ne_of_gt (blk_lt (g := gb101) (o := .cells #[.slice A0_0 l0_0.length c0_0, .slice A0_1 l0_1.length c0_1, .slice A0_2 l0_2.length c0_2] 96 (0, 0)) F1_) : gb117 ≠ gb101))
   have n10_ := Aside0.mk ((by rw [hg]; exact Nat.ne_of_lt (blk_lt (g := gb102) (o := .cells #[.slice A1_0 l1_0.length c1_0, .int .i64 a1_1, .int .i64 a1_2] 26 (0, 0)) F2_) : gb102 ≠ gb117))
   have n11_ := Aside0.mk ((by rw [hg]; exact Nat.ne_of_gt (blk_lt (g := gb102) (o := .cells #[.slice A1_0 l1_0.length c1_0, .int .i64 a1_1, .int .i64 a1_2] 26 (0, 0)) F2_) : gb117 ≠ gb102))
   have n12_ := Aside0.mk ((by rw [hg]; exact Nat.ne_of_lt (blk_lt (g := gb103) (o := .cells #[.int .u64 a2_0, .int .u64 a2_1, .int .u64 a2_2, .int .u64 a2_3] 33 (0, 0)) F3_) : gb103 ≠ gb117))
   have n13_ := Aside0.mk ((by rw [hg]; exact Nat.ne_of_gt (blk_lt (g := gb103) (o := .cells #[.int .u64 a2_0, .int .u64 a2_1, .int .u64 a2_2, .int .u64 a2_3] 33 (0, 0)) F3_) : gb117 ≠ gb103))
   clear HO108
   clear BK101
   clear BK102
   clear BK103
   clear HB
   have HO108 := n0_
   have BK101 := n1_
   have BK102 := n2_
   have BK103 := n3_
   have HB := n4_
   have BK117 := n5_
   have GW117 := n6_
   have GE117 := n7_
   have NB101_117 := n8_
   have NB117_101 := n9_
   have NB102_117 := n10_
   have NB117_102 := n11_
   have NB103_117 := n12_
   have NB117_103 := n13_
   clear n0_ n1_ n2_ n3_ n4_ n5_ n6_ n7_ n8_ n9_ n10_ n11_ n12_ n13_
   clear hb hbox hg
   refine hK.out _ _ ⟨(blk_cell BK101.out 0).trans rfl, (blk_cell BK101.out 1).trans rfl, (blk_cell BK101.out 2).trans rfl, (blk_cell BK102.out 0).trans rfl, (blk_cell BK102.out 1).trans rfl, (blk_cell BK102.out 2).trans rfl, (blk_cell BK103.out 0).trans rfl, (blk_cell BK103.out 1).trans rfl, (blk_cell BK103.out 2).trans rfl, (blk_cell BK103.out 3).trans rfl⟩ (fun hHeld => ?_)
   clear hK K
   refine norm_ (a' := ?_) ?_ ?_
   rotate_left
   ·show Act.put _ (some 10) _ = _
    simp only [Act.put, List.setIfInBounds_toArray, List.set_cons_zero, List.set_cons_succ, i64_w, i32_w]
    rfl
   refine one_ (i := 5) (N := some 55) #[true, true, true, true, true, true, false, false, false, false, true, false, false] rfl rfl (one_of HT_.out (by kernel_rfl)) (by decide) (fun K hK => ?_)
   refine goes_ Try.func71 (by kernel_rfl) rfl #[.agg #[.slice A0_0 l0_0.length c0_0, .slice A0_1 l0_1.length c0_1, .slice A0_2 l0_2.length c0_2], .agg #[.slice A1_0 l1_0.length c1_0, .int .i64 a1_1, .int .i64 a1_2], .agg #[.int .u64 a2_0, .int .u64 a2_1, .int .u64 a2_2, .int .u64 a2_3]] (by rfl) rfl rfl F10_ ?_
   with_reducible refine (fit_Best.calls k _ _ l0_0 _ _ l0_1 _ _ l0_2 _ _ l1_0 a1_1 a1_2 a2_0 a2_1 a2_2 a2_3 t111 _ ?side1 ?side2 ?side3 ?side4 ?side5 ?side6 ?side7 ?side8 A70.out).mono ?_
   (case side1 => exact F11_)
   (case side2 => exact HC0_0.out)
   (case side3 => exact F12_)
   (case side4 => exact HC0_1.out)
   (case side5 => exact F13_)
   (case side6 => exact HC0_2.out)
   (case side7 => exact F14_)
   (case side8 => exact HC1_0.out)
   rintro e w91 ⟨rfl, hb⟩
   refine ⟨_, rfl, ?_⟩
   have n0_ := Aside0.mk (Kd.R_below F29_ hb)
   have n1_ := Aside0.mk (blk_below (g := gb101) (o := .cells #[.slice A0_0 l0_0.length c0_0, .slice A0_1 l0_1.length c0_1, .slice A0_2 l0_2.length c0_2] 96 (0, 0)) F1_ hb)
   have n2_ := Aside0.mk (blk_below (g := gb102) (o := .cells #[.slice A1_0 l1_0.length c1_0, .int .i64 a1_1, .int .i64 a1_2] 26 (0, 0)) F2_ hb)
   have n3_ := Aside0.mk (blk_below (g := gb103) (o := .cells #[.int .u64 a2_0, .int .u64 a2_1, .int .u64 a2_2, .int .u64 a2_3] 33 (0, 0)) F3_ hb)
   have n4_ := Aside0.mk (blk_below (g := gb117) (o := .cells #[.int .u64 0, .int .u64 0, .int .u64 0, .int .u64 0] 33 (0, 0)) F6_ hb)
   have n5_ := Aside0.mk (below_step F19_ hb)
   clear HO108
   clear BK101
   clear BK102
   clear BK103
   clear BK117
   clear HB
   have HO108 := n0_
   have BK101 := n1_
   have BK102 := n2_
   have BK103 := n3_
   have BK117 := n4_
   have HB := n5_
   clear n0_ n1_ n2_ n3_ n4_ n5_
   (try clear hb)
   (try clear hb2)
   (try clear hk)
   (try clear hi)
   refine hK.out _ _ ⟨(blk_cell BK101.out 0).trans rfl, (blk_cell BK101.out 1).trans rfl, (blk_cell BK101.out 2).trans rfl, (blk_cell BK102.out 0).trans rfl, (blk_cell BK102.out 1).trans rfl, (blk_cell BK102.out 2).trans rfl, (blk_cell BK103.out 0).trans rfl, (blk_cell BK103.out 1).trans rfl, (blk_cell BK103.out 2).trans rfl, (blk_cell BK103.out 3).trans rfl⟩ (fun hHeld => ?_)
   clear hK K
   refine norm_ (a' := ?_) ?_ ?_
   rotate_left
   ·show Act.put _ (some 55) _ = _
    simp only [Act.put, List.setIfInBounds_toArray, List.set_cons_zero, List.set_cons_succ, i64_w, i32_w]
    rfl
   refine one_ (i := 6) (N := some 56) #[true, true, true, true, true, true, true, false, false, false, true, false, false] rfl rfl (one_of HT_.out (by kernel_rfl)) (by decide) (fun K hK => ?_)
   refine goes_ Try.func72 (by kernel_rfl) rfl #[.agg #[.slice A0_0 l0_0.length c0_0, .slice A0_1 l0_1.length c0_1, .slice A0_2 l0_2.length c0_2], .agg #[.slice A1_0 l1_0.length c1_0, .int .i64 a1_1, .int .i64 a1_2], .int .i64 t111] (by rfl) rfl rfl F10_ ?_
   with_reducible refine (room_Rest.calls k _ _ l0_0 _ _ l0_1 _ _ l0_2 _ _ l1_0 a1_1 a1_2 t111 t112 t113 t114 t115 t116 _ ?side1 ?side2 ?side3 ?side4 ?side5 ?side6 ?side7 ?side8 A71.out).mono ?_
   (case side1 => exact F11_)
   (case side2 => exact HC0_0.out)
   (case side3 => exact F12_)
   (case side4 => exact HC0_1.out)
   (case side5 => exact F13_)
   (case side6 => exact HC0_2.out)
   (case side7 => exact F14_)
   (case side8 => exact HC1_0.out)
   rintro e w92 ⟨rfl, hb⟩
   refine ⟨_, rfl, ?_⟩
   have n0_ := Aside0.mk (Kd.R_below F29_ hb)
   have n1_ := Aside0.mk (blk_below (g := gb101) (o := .cells #[.slice A0_0 l0_0.length c0_0, .slice A0_1 l0_1.length c0_1, .slice A0_2 l0_2.length c0_2] 96 (0, 0)) F1_ hb)
   have n2_ := Aside0.mk (blk_below (g := gb102) (o := .cells #[.slice A1_0 l1_0.length c1_0, .int .i64 a1_1, .int .i64 a1_2] 26 (0, 0)) F2_ hb)
   have n3_ := Aside0.mk (blk_below (g := gb103) (o := .cells #[.int .u64 a2_0, .int .u64 a2_1, .int .u64 a2_2, .int .u64 a2_3] 33 (0, 0)) F3_ hb)
   have n4_ := Aside0.mk (blk_below (g := gb117) (o := .cells #[.int .u64 0, .int .u64 0, .int .u64 0, .int .u64 0] 33 (0, 0)) F6_ hb)
   have n5_ := Aside0.mk (below_step F19_ hb)
   clear HO108
   clear BK101
   clear BK102
   clear BK103
   clear BK117
   clear HB
   have HO108 := n0_
   have BK101 := n1_
   have BK102 := n2_
   have BK103 := n3_
   have BK117 := n4_
   have HB := n5_
   clear n0_ n1_ n2_ n3_ n4_ n5_
   (try clear hb)
   (try clear hb2)
   (try clear hk)
   (try clear hi)
   (try simp only [errW_none, errW_some])
   refine hK.out _ _ ⟨(blk_cell BK101.out 0).trans rfl, (blk_cell BK101.out 1).trans rfl, (blk_cell BK101.out 2).trans rfl, (blk_cell BK102.out 0).trans rfl, (blk_cell BK102.out 1).trans rfl, (blk_cell BK102.out 2).trans rfl, (blk_cell BK103.out 0).trans rfl, (blk_cell BK103.out 1).trans rfl, (blk_cell BK103.out 2).trans rfl, (blk_cell BK103.out 3).trans rfl⟩ (fun hHeld => ?_)
   clear hK K
   refine norm_ (a' := ?_) ?_ ?_
   rotate_left
   ·show Act.put _ (some 56) _ = _
    simp only [Act.put, List.setIfInBounds_toArray, List.set_cons_zero, List.set_cons_succ, i64_w, i32_w]
    rfl
   refine pure_ (i := 7) (N := some 49) (v := ?_) (a' := ?_) #[true, true, true, true, true, true, true, true, false, false, true, false, false] rfl rfl (any_of HT_.out (by kernel_rfl)) (fun _ _ _ h => h) (Or.inl ⟨by rfl, ?_⟩) ?_ ?_
   rotate_left
   ·intro w'
    go_simp
    with_reducible rfl
   rotate_left
   ·simp only [Act.put, List.setIfInBounds_toArray, List.set_cons_zero, List.set_cons_succ, i64_w, i32_w]
    rfl
   refine pure_ (i := 8) (N := some 57) (v := ?_) (a' := ?_) #[true, true, true, true, true, true, true, true, true, false, true, false, false] rfl rfl (any_of HT_.out (by kernel_rfl)) (fun _ _ _ h => h) (Or.inl ⟨by rfl, ?_⟩) ?_ ?_
   rotate_left
   ·intro w'
    go_simp
    with_reducible rfl
   rotate_left
   ·simp only [Act.put, List.setIfInBounds_toArray, List.set_cons_zero, List.set_cons_succ, i64_w, i32_w]
    rfl
   refine pure_ (i := 9) (N := some 58) (v := ?_) (a' := ?_) #[true, true, true, true, true, true, true, true, true, true, true, false, false] rfl rfl (any_of HT_.out (by kernel_rfl)) (fun _ _ _ h => h) (Or.inl ⟨by rfl, ?_⟩) ?_ ?_
   rotate_left
   ·intro w'
    go_simp
    with_reducible rfl
   rotate_left
   ·simp only [Act.put, List.setIfInBounds_toArray, List.set_cons_zero, List.set_cons_succ, i64_w, i32_w]
    rfl
   exact norm_ F35_ (hCont (gb117) _ ⟨hHeld, F29_, F1_, F2_, F3_, F6_, GW117.out, GE117.out, NB101_117.out, NB117_101.out, NB102_117.out, NB117_102.out, NB103_117.out, NB117_103.out, F19_⟩)) : p := h
theorem L3_ {p : Prop} (h : p := by
  intro hCont
  refine two_ (i := 6) (j := 10) (Ni := some 94) (Nj := some 15) #[true, true, true, true, true, true, true, false, false, false, false, false, false] #[true, true, true, true, true, true, false, false, false, false, true, false, false] rfl rfl rfl rfl (two_of HT_.out (by kernel_rfl)) (by decide) (by decide) (fun K hK => ?_) (fun K hK => ?_)
  ·skip
   refine goes_ Try.func72 (by kernel_rfl) rfl #[.agg #[.slice A0_0 l0_0.length c0_0, .slice A0_1 l0_1.length c0_1, .slice A0_2 l0_2.length c0_2], .agg #[.slice A1_0 l1_0.length c1_0, .int .i64 a1_1, .int .i64 a1_2], .int .i64 (rd t106 x14_2)] (by rfl) rfl rfl F10_ ?_
   with_reducible refine (room_Rest.calls k2 _ _ l0_0 _ _ l0_1 _ _ l0_2 _ _ l1_0 a1_1 a1_2 (rd t106 x14_2) t129 t130 t131 t132 (some q141) _ ?side1 ?side2 ?side3 ?side4 ?side5 ?side6 ?side7 ?side8 A122.out).mono ?_
   (case side1 => exact F11_)
   (case side2 => exact HC0_0.out)
   (case side3 => exact F12_)
   (case side4 => exact HC0_1.out)
   (case side5 => exact F13_)
   (case side6 => exact HC0_2.out)
   (case side7 => exact F14_)
   (case side8 => exact HC1_0.out)
   rintro e w221 ⟨rfl, hb⟩
   have HS6_ := (hb.cell (World.block_lt_of_cell? _ _ (hHeld.2.2.2.2.2.2))).trans (hHeld.2.2.2.2.2.2)
   refine ⟨_, rfl, ?_⟩
   have n0_ := Aside0.mk (Kd.R_below F15_ hb)
   have n1_ := Aside0.mk (blk_below (g := gb101) (o := .cells #[.slice A0_0 l0_0.length c0_0, .slice A0_1 l0_1.length c0_1, .slice A0_2 l0_2.length c0_2] 96 (0, 0)) F1_ hb)
   have n2_ := Aside0.mk (blk_below (g := gb102) (o := .cells #[.slice A1_0 l1_0.length c1_0, .int .i64 a1_1, .int .i64 a1_2] 26 (0, 0)) F2_ hb)
   have n3_ := Aside0.mk (blk_below (g := gb103) (o := .cells #[.int .u64 a2_0, .int .u64 a2_1, .int .u64 a2_2, .int .u64 a2_3] 33 (0, 0)) F3_ hb)
   have n4_ := Aside0.mk (blk_below (g := gb117) (o := .cells #[.int .u64 t112, .int .u64 t113, .int .u64 t114, .int .u64 t115] 33 (0, 0)) F6_ hb)
   have n5_ := Aside0.mk (blk_below (g := gb123) (o := .cells #[.int .u64 t118, .int .u64 t119, .int .u64 t120, .int .u64 t121] 33 (0, 0)) F8_ hb)
   have n6_ := Aside0.mk (below_step F5_ hb)
   clear HO_9
   clear BK101
   clear BK102
   clear BK103
   clear BK117
   clear BK123
   clear HB
   have HO_9 := n0_
   have BK101 := n1_
   have BK102 := n2_
   have BK103 := n3_
   have BK117 := n4_
   have BK123 := n5_
   have HB := n6_
   clear n0_ n1_ n2_ n3_ n4_ n5_ n6_
   (try clear hb)
   (try clear hb2)
   (try clear hk)
   (try clear hi)
   (try simp only [errW_none, errW_some])
   refine hK.out _ _ ⟨(blk_cell BK101.out 0).trans rfl, (blk_cell BK101.out 1).trans rfl, (blk_cell BK101.out 2).trans rfl, (blk_cell BK102.out 0).trans rfl, (blk_cell BK102.out 1).trans rfl, (blk_cell BK102.out 2).trans rfl, HS6_⟩ (fun hHeld => ?_)
   clear hK K
   refine norm_ (a' := ?_) ?_ ?_
   rotate_left
   ·show Act.put _ (some 94) _ = _
    simp only [Act.put, List.setIfInBounds_toArray, List.set_cons_zero, List.set_cons_succ, i64_w, i32_w]
    rfl
   refine pure_ (i := 7) (N := some 87) (v := ?_) (a' := ?_) #[true, true, true, true, true, true, true, true, false, false, false, false, false] rfl rfl (any_of HT_.out (by kernel_rfl)) (fun _ _ _ h => h) (Or.inl ⟨by rfl, ?_⟩) ?_ ?_
   rotate_left
   ·intro w'
    go_simp
    with_reducible rfl
   rotate_left
   ·simp only [Act.put, List.setIfInBounds_toArray, List.set_cons_zero, List.set_cons_succ, i64_w, i32_w]
    rfl
   refine pure_ (i := 8) (N := some 95) (v := ?_) (a' := ?_) #[true, true, true, true, true, true, true, true, true, false, false, false, false] rfl rfl (any_of HT_.out (by kernel_rfl)) (fun _ _ _ h => h) (Or.inl ⟨by rfl, ?_⟩) ?_ ?_
   rotate_left
   ·intro w'
    go_simp
    with_reducible rfl
   rotate_left
   ·simp only [Act.put, List.setIfInBounds_toArray, List.set_cons_zero, List.set_cons_succ, i64_w, i32_w]
    rfl
   refine pure_ (i := 9) (N := some 96) (v := ?_) (a' := ?_) #[true, true, true, true, true, true, true, true, true, true, false, false, false] rfl rfl (any_of HT_.out (by kernel_rfl)) (fun _ _ _ h => h) (Or.inl ⟨by rfl, ?_⟩) ?_ ?_
   rotate_left
   ·intro w'
    go_simp
    with_reducible rfl
   rotate_left
   ·simp only [Act.put, List.setIfInBounds_toArray, List.set_cons_zero, List.set_cons_succ, i64_w, i32_w]
    rfl
   refine one_ (i := 10) (N := some 15) #[true, true, true, true, true, true, true, true, true, true, true, false, false] rfl rfl (one_of HT_.out (by kernel_rfl)) (by decide) (fun K hK => ?_)
   refine box_step ?hg (N := 15) ?hd (cs := #[.int .u64 0, .int .u64 0, .int .u64 0, .int .u64 0]) (t := 33) ?hr ?_; (case hd => rfl); (case hg => rfl); (case hr => first | (go_simp; done) | (go_simp; rfl))
   intro gb134 hg w222 hbox hb
   have HS6_ := (hb.cell (World.block_lt_of_cell? _ _ (hHeld.2.2.2.2.2.2))).trans (hHeld.2.2.2.2.2.2)
   have n0_ := Aside0.mk (Kd.R_below F15_ hb)
   have n1_ := Aside0.mk (blk_below (g := gb101) (o := .cells #[.slice A0_0 l0_0.length c0_0, .slice A0_1 l0_1.length c0_1, .slice A0_2 l0_2.length c0_2] 96 (0, 0)) F1_ hb)
   have n2_ := Aside0.mk (blk_below (g := gb102) (o := .cells #[.slice A1_0 l1_0.length c1_0, .int .i64 a1_1, .int .i64 a1_2] 26 (0, 0)) F2_ hb)
   have n3_ := Aside0.mk (blk_below (g := gb103) (o := .cells #[.int .u64 a2_0, .int .u64 a2_1, .int .u64 a2_2, .int .u64 a2_3] 33 (0, 0)) F3_ hb)
   have n4_ := Aside0.mk (blk_below (g := gb117) (o := .cells #[.int .u64 t112, .int .u64 t113, .int .u64 t114, .int .u64 t115] 33 (0, 0)) F6_ hb)
   have n5_ := Aside0.mk (blk_below (g := gb123) (o := .cells #[.int .u64 t118, .int .u64 t119, .int .u64 t120, .int .u64 t121] 33 (0, 0)) F8_ hb)
   have n6_ := Aside0.mk (below_step F5_ hb)
   have n7_ := Aside0.mk (hbox)
   have n8_ := Aside0.mk ((by rw [hg]; exact (below_size F5_) : w.heap.size ≤ gb134))
   have n9_ := Aside0.mk ((by rw [hg]; exact (below_size F5_) : w.heap.size ≤ gb134))
   have n10_ := Aside0.mk ((by rw [hg]; exact Nat.ne_of_lt (blk_lt (g := gb101) (o := .cells #[.slice A0_0 l0_0.length c0_0, .slice A0_1 l0_1.length c0_1, .slice A0_2 l0_2.length c0_2] 96 (0, 0)) F1_) : gb101 ≠ gb134))
   have n11_ := Aside0.mk ((by rw [hg]; exact Nat.ne_of_gt (blk_lt (g := gb101) (o := .cells #[.slice A0_0 l0_0.length c0_0, .slice A0_1 l0_1.length c0_1, .slice A0_2 l0_2.length c0_2] 96 (0, 0)) F1_) : gb134 ≠ gb101))
   have n12_ := Aside0.mk ((by rw [hg]; exact Nat.ne_of_lt (blk_lt (g := gb102) (o := .cells #[.slice A1_0 l1_0.length c1_0, .int .i64 a1_1, .int .i64 a1_2] 26 (0, 0)) F2_) : gb102 ≠ gb134))
   have n13_ := Aside0.mk ((by rw [hg]; exact Nat.ne_of_gt (blk_lt (g := gb102) (o := .cells #[.slice A1_0 l1_0.length c1_0, .int .i64 a1_1, .int .i64 a1_2] 26 (0, 0)) F2_) : gb134 ≠ gb102))
   have n14_ := Aside0.mk ((by rw [hg]; exact Nat.ne_of_lt (blk_lt (g := gb103) (o := .cells #[.int .u64 a2_0, .int .u64 a2_1, .int .u64 a2_2, .int .u64 a2_3] 33 (0, 0)) F3_) : gb103 ≠ gb134))
   have n15_ := Aside0.mk ((by rw [hg]; exact Nat.ne_of_gt (blk_lt (g := gb103) (o := .cells #[.int .u64 a2_0, .int .u64 a2_1, .int .u64 a2_2, .int .u64 a2_3] 33 (0, 0)) F3_) : gb134 ≠ gb103))
   have n16_ := Aside0.mk ((by rw [hg]; exact Nat.ne_of_lt (blk_lt (g := gb117) (o := .cells #[.int .u64 t112, .int .u64 t113, .int .u64 t114, .int .u64 t115] 33 (0, 0)) F6_) : gb117 ≠ gb134))
   have n17_ := Aside0.mk ((by rw [hg]; exact Nat.ne_of_gt (blk_lt (g := gb117) (o := .cells #[.int .u64 t112, .int .u64 t113, .int .u64 t114, .int .u64 t115] 33 (0, 0)) F6_) : gb134 ≠ gb117))
   have n18_ := Aside0.mk ((by rw [hg]; exact Nat.ne_of_lt (blk_lt (g := gb123) (o := .cells #[.int .u64 t118, .int .u64 t119, .int .u64 t120, .int .u64 t121] 33 (0, 0)) F8_) : gb123 ≠ gb134))
   have n19_ := Aside0.mk ((by rw [hg]; exact Nat.ne_of_gt (blk_lt (g := gb123) (o := .cells #[.int .u64 t118, .int .u64 t119, .int .u64 t120, .int .u64 t121] 33 (0, 0)) F8_) : gb134 ≠ gb123))
   clear HO_9
   clear BK101
   clear BK102
   clear BK103
   clear BK117
   clear BK123
   clear HB
   have HO_9 := n0_
   have BK101 := n1_
   have BK102 := n2_
   have BK103 := n3_
   have BK117 := n4_
   have BK123 := n5_
   have HB := n6_
   have BK134 := n7_
   have GW134 := n8_
   have GE134 := n9_
   have NB101_134 := n10_
   have NB134_101 := n11_
   have NB102_134 := n12_
   have NB134_102 := n13_
   have NB103_134 := n14_
   have NB134_103 := n15_
   have NB117_134 := n16_
   have NB134_117 := n17_
   have NB123_134 := n18_
   have NB134_123 := n19_
   clear n0_ n1_ n2_ n3_ n4_ n5_ n6_ n7_ n8_ n9_ n10_ n11_ n12_ n13_ n14_ n15_ n16_ n17_ n18_ n19_
   clear hb hbox hg
   refine hK.out _ _ ⟨(blk_cell BK101.out 0).trans rfl, (blk_cell BK101.out 1).trans rfl, (blk_cell BK101.out 2).trans rfl, (blk_cell BK102.out 0).trans rfl, (blk_cell BK102.out 1).trans rfl, (blk_cell BK102.out 2).trans rfl, HS6_⟩ (fun hHeld => ?_)
   clear hK K
   refine norm_ (a' := ?_) ?_ ?_
   rotate_left
   ·show Act.put _ (some 15) _ = _
    simp only [Act.put, List.setIfInBounds_toArray, List.set_cons_zero, List.set_cons_succ, i64_w, i32_w]
    rfl
   exact norm_ F35_ (hCont (gb134) _ ⟨hHeld, F15_, F1_, F2_, F3_, F6_, F8_, F17_, GW134.out, GE134.out, NB101_134.out, NB134_101.out, NB102_134.out, NB134_102.out, NB103_134.out, NB134_103.out, NB117_134.out, NB134_117.out, NB123_134.out, NB134_123.out, F4_⟩)
  ·skip
   refine box_step ?hg (N := 15) ?hd (cs := #[.int .u64 0, .int .u64 0, .int .u64 0, .int .u64 0]) (t := 33) ?hr ?_; (case hd => rfl); (case hg => rfl); (case hr => first | (go_simp; done) | (go_simp; rfl))
   intro gb134 hg w221 hbox hb
   have HS6_ := (hb.cell (World.block_lt_of_cell? _ _ (hHeld.2.2.2.2.2.2))).trans (hHeld.2.2.2.2.2.2)
   have n0_ := Aside0.mk (Kd.R_below F15_ hb)
   have n1_ := Aside0.mk (blk_below (g := gb101) (o := .cells #[.slice A0_0 l0_0.length c0_0, .slice A0_1 l0_1.length c0_1, .slice A0_2 l0_2.length c0_2] 96 (0, 0)) F1_ hb)
   have n2_ := Aside0.mk (blk_below (g := gb102) (o := .cells #[.slice A1_0 l1_0.length c1_0, .int .i64 a1_1, .int .i64 a1_2] 26 (0, 0)) F2_ hb)
   have n3_ := Aside0.mk (blk_below (g := gb103) (o := .cells #[.int .u64 a2_0, .int .u64 a2_1, .int .u64 a2_2, .int .u64 a2_3] 33 (0, 0)) F3_ hb)
   have n4_ := Aside0.mk (blk_below (g := gb117) (o := .cells #[.int .u64 t112, .int .u64 t113, .int .u64 t114, .int .u64 t115] 33 (0, 0)) F6_ hb)
   have n5_ := Aside0.mk (blk_below (g := gb123) (o := .cells #[.int .u64 t118, .int .u64 t119, .int .u64 t120, .int .u64 t121] 33 (0, 0)) F8_ hb)
   have n6_ := Aside0.mk (below_step F5_ hb)
   have n7_ := Aside0.mk (hbox)
   have n8_ := Aside0.mk ((by rw [hg]; exact (below_size F5_) : w.heap.size ≤ gb134))
   have n9_ := Aside0.mk ((by rw [hg]; exact (below_size F5_) : w.heap.size ≤ gb134))
   have n10_ := Aside0.mk ((by rw [hg]; exact Nat.ne_of_lt (blk_lt (g := gb101) (o := .cells #[.slice A0_0 l0_0.length c0_0, .slice A0_1 l0_1.length c0_1, .slice A0_2 l0_2.length c0_2] 96 (0, 0)) F1_) : gb101 ≠ gb134))
   have n11_ := Aside0.mk ((by rw [hg]; exact Nat.ne_of_gt (blk_lt (g := gb101) (o := .cells #[.slice A0_0 l0_0.length c0_0, .slice A0_1 l0_1.length c0_1, .slice A0_2 l0_2.length c0_2] 96 (0, 0)) F1_) : gb134 ≠ gb101))
   have n12_ := Aside0.mk ((by rw [hg]; exact Nat.ne_of_lt (blk_lt (g := gb102) (o := .cells #[.slice A1_0 l1_0.length c1_0, .int .i64 a1_1, .int .i64 a1_2] 26 (0, 0)) F2_) : gb102 ≠ gb134))
   have n13_ := Aside0.mk ((by rw [hg]; exact Nat.ne_of_gt (blk_lt (g := gb102) (o := .cells #[.slice A1_0 l1_0.length c1_0, .int .i64 a1_1, .int .i64 a1_2] 26 (0, 0)) F2_) : gb134 ≠ gb102))
   have n14_ := Aside0.mk ((by rw [hg]; exact Nat.ne_of_lt (blk_lt (g := gb103) (o := .cells #[.int .u64 a2_0, .int .u64 a2_1, .int .u64 a2_2, .int .u64 a2_3] 33 (0, 0)) F3_) : gb103 ≠ gb134))
   have n15_ := Aside0.mk ((by rw [hg]; exact Nat.ne_of_gt (blk_lt (g := gb103) (o := .cells #[.int .u64 a2_0, .int .u64 a2_1, .int .u64 a2_2, .int .u64 a2_3] 33 (0, 0)) F3_) : gb134 ≠ gb103))
   have n16_ := Aside0.mk ((by rw [hg]; exact Nat.ne_of_lt (blk_lt (g := gb117) (o := .cells #[.int .u64 t112, .int .u64 t113, .int .u64 t114, .int .u64 t115] 33 (0, 0)) F6_) : gb117 ≠ gb134))
   have n17_ := Aside0.mk ((by rw [hg]; exact Nat.ne_of_gt (blk_lt (g := gb117) (o := .cells #[.int .u64 t112, .int .u64 t113, .int .u64 t114, .int .u64 t115] 33 (0, 0)) F6_) : gb134 ≠ gb117))
   have n18_ := Aside0.mk ((by rw [hg]; exact Nat.ne_of_lt (blk_lt (g := gb123) (o := .cells #[.int .u64 t118, .int .u64 t119, .int .u64 t120, .int .u64 t121] 33 (0, 0)) F8_) : gb123 ≠ gb134))
   have n19_ := Aside0.mk ((by rw [hg]; exact Nat.ne_of_gt (blk_lt (g := gb123) (o := .cells #[.int .u64 t118, .int .u64 t119, .int .u64 t120, .int .u64 t121] 33 (0, 0)) F8_) : gb134 ≠ gb123))
   clear HO_9
   clear BK101
   clear BK102
   clear BK103
   clear BK117
   clear BK123
   clear HB
   have HO_9 := n0_
   have BK101 := n1_
   have BK102 := n2_
   have BK103 := n3_
   have BK117 := n4_
   have BK123 := n5_
   have HB := n6_
   have BK134 := n7_
   have GW134 := n8_
   have GE134 := n9_
   have NB101_134 := n10_
   have NB134_101 := n11_
   have NB102_134 := n12_
   have NB134_102 := n13_
   have NB103_134 := n14_
   have NB134_103 := n15_
   have NB117_134 := n16_
   have NB134_117 := n17_
   have NB123_134 := n18_
   have NB134_123 := n19_
   clear n0_ n1_ n2_ n3_ n4_ n5_ n6_ n7_ n8_ n9_ n10_ n11_ n12_ n13_ n14_ n15_ n16_ n17_ n18_ n19_
   clear hb hbox hg
   refine hK.out _ _ ⟨(blk_cell BK101.out 0).trans rfl, (blk_cell BK101.out 1).trans rfl, (blk_cell BK101.out 2).trans rfl, (blk_cell BK102.out 0).trans rfl, (blk_cell BK102.out 1).trans rfl, (blk_cell BK102.out 2).trans rfl, HS6_⟩ (fun hHeld => ?_)
   clear hK K
   refine norm_ (a' := ?_) ?_ ?_
   rotate_left
   ·show Act.put _ (some 15) _ = _
    simp only [Act.put, List.setIfInBounds_toArray, List.set_cons_zero, List.set_cons_succ, i64_w, i32_w]
    rfl
   refine one_ (i := 6) (N := some 94) #[true, true, true, true, true, true, true, false, false, false, true, false, false] rfl rfl (one_of HT_.out (by kernel_rfl)) (by decide) (fun K hK => ?_)
   refine goes_ Try.func72 (by kernel_rfl) rfl #[.agg #[.slice A0_0 l0_0.length c0_0, .slice A0_1 l0_1.length c0_1, .slice A0_2 l0_2.length c0_2], .agg #[.slice A1_0 l1_0.length c1_0, .int .i64 a1_1, .int .i64 a1_2], .int .i64 (rd t106 x14_2)] (by rfl) rfl rfl F10_ ?_
   with_reducible refine (room_Rest.calls k2 _ _ l0_0 _ _ l0_1 _ _ l0_2 _ _ l1_0 a1_1 a1_2 (rd t106 x14_2) t129 t130 t131 t132 (some q141) _ ?side1 ?side2 ?side3 ?side4 ?side5 ?side6 ?side7 ?side8 A122.out).mono ?_
   (case side1 => exact F11_)
   (case side2 => exact HC0_0.out)
   (case side3 => exact F12_)
   (case side4 => exact HC0_1.out)
   (case side5 => exact F13_)
   (case side6 => exact HC0_2.out)
   (case side7 => exact F14_)
   (case side8 => exact HC1_0.out)
   rintro e w222 ⟨rfl, hb⟩
   have HS6_ := (hb.cell (World.block_lt_of_cell? _ _ (hHeld.2.2.2.2.2.2))).trans (hHeld.2.2.2.2.2.2)
   refine ⟨_, rfl, ?_⟩
   have n0_ := Aside0.mk (Kd.R_below F15_ hb)
   have n1_ := Aside0.mk (blk_below (g := gb101) (o := .cells #[.slice A0_0 l0_0.length c0_0, .slice A0_1 l0_1.length c0_1, .slice A0_2 l0_2.length c0_2] 96 (0, 0)) F1_ hb)
   have n2_ := Aside0.mk (blk_below (g := gb102) (o := .cells #[.slice A1_0 l1_0.length c1_0, .int .i64 a1_1, .int .i64 a1_2] 26 (0, 0)) F2_ hb)
   have n3_ := Aside0.mk (blk_below (g := gb103) (o := .cells #[.int .u64 a2_0, .int .u64 a2_1, .int .u64 a2_2, .int .u64 a2_3] 33 (0, 0)) F3_ hb)
   have n4_ := Aside0.mk (blk_below (g := gb117) (o := .cells #[.int .u64 t112, .int .u64 t113, .int .u64 t114, .int .u64 t115] 33 (0, 0)) F6_ hb)
   have n5_ := Aside0.mk (blk_below (g := gb123) (o := .cells #[.int .u64 t118, .int .u64 t119, .int .u64 t120, .int .u64 t121] 33 (0, 0)) F8_ hb)
   have n6_ := Aside0.mk (blk_below (g := gb134) (o := .cells #[.int .u64 0, .int .u64 0, .int .u64 0, .int .u64 0] 33 (0, 0)) F17_ hb)
   have n7_ := Aside0.mk (below_step F4_ hb)
   clear HO_9
   clear BK101
   clear BK102
   clear BK103
   clear BK117
   clear BK123
   clear BK134
   clear HB
   have HO_9 := n0_
   have BK101 := n1_
   have BK102 := n2_
   have BK103 := n3_
   have BK117 := n4_
   have BK123 := n5_
   have BK134 := n6_
   have HB := n7_
   clear n0_ n1_ n2_ n3_ n4_ n5_ n6_ n7_
   (try clear hb)
   (try clear hb2)
   (try clear hk)
   (try clear hi)
   (try simp only [errW_none, errW_some])
   refine hK.out _ _ ⟨(blk_cell BK101.out 0).trans rfl, (blk_cell BK101.out 1).trans rfl, (blk_cell BK101.out 2).trans rfl, (blk_cell BK102.out 0).trans rfl, (blk_cell BK102.out 1).trans rfl, (blk_cell BK102.out 2).trans rfl, HS6_⟩ (fun hHeld => ?_)
   clear hK K
   refine norm_ (a' := ?_) ?_ ?_
   rotate_left
   ·show Act.put _ (some 94) _ = _
    simp only [Act.put, List.setIfInBounds_toArray, List.set_cons_zero, List.set_cons_succ, i64_w, i32_w]
    rfl
   refine pure_ (i := 7) (N := some 87) (v := ?_) (a' := ?_) #[true, true, true, true, true, true, true, true, false, false, true, false, false] rfl rfl (any_of HT_.out (by kernel_rfl)) (fun _ _ _ h => h) (Or.inl ⟨by rfl, ?_⟩) ?_ ?_
   rotate_left
   ·intro w'
    go_simp
    with_reducible rfl
   rotate_left
   ·simp only [Act.put, List.setIfInBounds_toArray, List.set_cons_zero, List.set_cons_succ, i64_w, i32_w]
    rfl
   refine pure_ (i := 8) (N := some 95) (v := ?_) (a' := ?_) #[true, true, true, true, true, true, true, true, true, false, true, false, false] rfl rfl (any_of HT_.out (by kernel_rfl)) (fun _ _ _ h => h) (Or.inl ⟨by rfl, ?_⟩) ?_ ?_
   rotate_left
   ·intro w'
    go_simp
    with_reducible rfl
   rotate_left
   ·simp only [Act.put, List.setIfInBounds_toArray, List.set_cons_zero, List.set_cons_succ, i64_w, i32_w]
    rfl
   refine pure_ (i := 9) (N := some 96) (v := ?_) (a' := ?_) #[true, true, true, true, true, true, true, true, true, true, true, false, false] rfl rfl (any_of HT_.out (by kernel_rfl)) (fun _ _ _ h => h) (Or.inl ⟨by rfl, ?_⟩) ?_ ?_
   rotate_left
   ·intro w'
    go_simp
    with_reducible rfl
   rotate_left
   ·simp only [Act.put, List.setIfInBounds_toArray, List.set_cons_zero, List.set_cons_succ, i64_w, i32_w]
    rfl
   exact norm_ F35_ (hCont (gb134) _ ⟨hHeld, F15_, F1_, F2_, F3_, F6_, F8_, F17_, GW134.out, GE134.out, NB101_134.out, NB134_101.out, NB102_134.out, NB134_102.out, NB103_134.out, NB134_103.out, NB117_134.out, NB134_117.out, NB123_134.out, NB134_123.out, F4_⟩)) : p := h
theorem L4_ {p : Prop} (h : p := by
  have H1 : (some false) = some r := by rw [if_neg (show ¬ (some q141).isNone = true by simp)] at H; exact H
  clear H
  have H := H1
  clear H1
  try simp only [errW_none, errW_some]
  obtain rfl := Option.some.inj H
  try go_wp2
  have n0_ := Aside0.mk (Kd.R_drew HO_9.out)
  have n1_ := Aside0.mk (blk_drew BK101.out)
  have n2_ := Aside0.mk (blk_drew BK102.out)
  have n3_ := Aside0.mk (blk_drew BK103.out)
  have n4_ := Aside0.mk (blk_drew BK117.out)
  have n5_ := Aside0.mk (blk_drew BK123.out)
  have n6_ := Aside0.mk (below_drew1 HB.out)
  clear HO_9
  clear BK101
  clear BK102
  clear BK103
  clear BK117
  clear BK123
  clear HB
  have HO_9 := n0_
  have BK101 := n1_
  have BK102 := n2_
  have BK103 := n3_
  have BK117 := n4_
  have BK123 := n5_
  have HB := n6_
  clear n0_ n1_ n2_ n3_ n4_ n5_ n6_
  have p128 : 0 ≤ (x14_2 : Int) := of_decide_eq_true F53_
  have q128 : x14_2 < (t106.length : Int) := of_decide_eq_true F53_
  obtain ⟨ad128, e128, hx128_0⟩ := Kd.at_int (Kd.R_reads' HO_9.out).2.2 x14_2 p128 q128
  cases e128
  replace p128 := eq_true p128
  replace q128 := eq_true q128
  refine start_ (n := 13) (S := fun w' => w'.cell? ⟨gb101, 0, none⟩ = some (.slice A0_0 l0_0.length c0_0) ∧ w'.cell? ⟨gb101, 1, none⟩ = some (.slice A0_1 l0_1.length c0_1) ∧ w'.cell? ⟨gb101, 2, none⟩ = some (.slice A0_2 l0_2.length c0_2) ∧ w'.cell? ⟨gb102, 0, none⟩ = some (.slice A1_0 l1_0.length c1_0) ∧ w'.cell? ⟨gb102, 1, none⟩ = some (.int .i64 a1_1) ∧ w'.cell? ⟨gb102, 2, none⟩ = some (.int .i64 a1_2) ∧ w'.cell? (ad128.add (x14_2).toNat) = some (.int .i64 (rd t106 x14_2))) (ds := []) #[false, false, false, false, false, false, false, false, false, false, false, false, false] (by kernel_rfl) rfl rfl ⟨(blk_cell BK101.out 0).trans rfl, (blk_cell BK101.out 1).trans rfl, (blk_cell BK101.out 2).trans rfl, (blk_cell BK102.out 0).trans rfl, (blk_cell BK102.out 1).trans rfl, (blk_cell BK102.out 2).trans rfl, hx128_0⟩ (fun hHeld => ?_); refine with_tabW dunnagelaw14_FitTight.tab15 dunnagelaw14_FitTight.bits15 (fun HT_ HW_ => ?_)
  generalize wr.drew = w220 at HO_9 BK101 BK102 BK103 BK117 BK123 HB hx128_0 hHeld ⊢
  refine pure_ (i := 2) (N := some 90) (v := ?_) (a' := ?_) #[false, false, true, false, false, false, false, false, false, false, false, false, false] rfl rfl (any_of HT_.out (by kernel_rfl)) (fun _ _ _ h => h) (Or.inl ⟨by rfl, ?_⟩) ?_ ?_
  rotate_left
  ·intro w'
   go_simp
   with_reducible rfl
  rotate_left
  ·simp only [Act.put, List.setIfInBounds_toArray, List.set_cons_zero, List.set_cons_succ, i64_w, i32_w]
   rfl
  refine pure_ (i := 3) (N := some 91) (v := ?_) (a' := ?_) #[false, false, true, true, false, false, false, false, false, false, false, false, false] rfl rfl (any_of HT_.out (by kernel_rfl)) (fun _ _ _ h => h) (Or.inl ⟨by rfl, ?_⟩) ?_ ?_
  rotate_left
  ·intro w'
   go_simp
   with_reducible rfl
  rotate_left
  ·simp only [Act.put, List.setIfInBounds_toArray, List.set_cons_zero, List.set_cons_succ, i64_w, i32_w]
   rfl
  refine pure_ (i := 4) (N := some 92) (v := ?_) (a' := ?_) #[false, false, true, true, true, false, false, false, false, false, false, false, false] rfl rfl (any_of HT_.out (by kernel_rfl)) (fun _ _ _ h => h) (Or.inl ⟨by rfl, ?_⟩) ?_ ?_
  rotate_left
  ·intro w'
   go_simp
   with_reducible rfl
  rotate_left
  ·simp only [Act.put, List.setIfInBounds_toArray, List.set_cons_zero, List.set_cons_succ, i64_w, i32_w]
   rfl
  refine take_ (i := 0) (N := some 88) (v := ?_) (a' := ?_) #[true, false, true, true, true, false, false, false, false, false, false, false, false] rfl rfl (take_ofW HT_.out HW_.out (by kernel_rfl)) (fun _ _ _ h => h) (Or.inl ⟨by rfl, ?_⟩) hHeld ?_ ?_
  rotate_left
  ·rintro w' ⟨s0, s1, s2, s3, s4, s5, s6⟩
   go_simp
   with_reducible rfl
  rotate_left
  ·simp only [Act.put, List.setIfInBounds_toArray, List.set_cons_zero, List.set_cons_succ, i64_w, i32_w]
   rfl
  refine take_ (i := 1) (N := some 89) (v := ?_) (a' := ?_) #[true, true, true, true, true, false, false, false, false, false, false, false, false] rfl rfl (take_ofW HT_.out HW_.out (by kernel_rfl)) (fun _ _ _ h => h) (Or.inl ⟨by rfl, ?_⟩) hHeld ?_ ?_
  rotate_left
  ·rintro w' ⟨s0, s1, s2, s3, s4, s5, s6⟩
   go_simp
   with_reducible rfl
  rotate_left
  ·simp only [Act.put, List.setIfInBounds_toArray, List.set_cons_zero, List.set_cons_succ, i64_w, i32_w]
   rfl
  refine take_ (i := 5) (N := some 93) (v := ?_) (a' := ?_) #[true, true, true, true, true, true, false, false, false, false, false, false, false] rfl rfl (take_ofW HT_.out HW_.out (by kernel_rfl)) (fun _ _ _ h => h) (Or.inl ⟨by rfl, ?_⟩) hHeld ?_ ?_
  rotate_left
  ·rintro w' ⟨s0, s1, s2, s3, s4, s5, s6⟩
   go_simp
   with_reducible rfl
  rotate_left
  ·simp only [Act.put, List.setIfInBounds_toArray, List.set_cons_zero, List.set_cons_succ, i64_w, i32_w]
   rfl
  refine join_ (σ := Nat) 2 #[true, true, true, true, true, true, true, true, true, true, true, false, false] (fun s_ => [(94, .tuple #[.agg #[.int .u64 t129, .int .u64 t130, .int .u64 t131, .int .u64 t132], errW (some q141)]), (15, .pointer (some ⟨s_, 0, none⟩)), (87, .tuple #[.agg #[.int .u64 t129, .int .u64 t130, .int .u64 t131, .int .u64 t132], errW (some q141)]), (95, .agg #[.int .u64 t129, .int .u64 t130, .int .u64 t131, .int .u64 t132]), (96, errW (some q141))]) (fun s_ w' => (w'.cell? ⟨gb101, 0, none⟩ = some (.slice A0_0 l0_0.length c0_0) ∧ w'.cell? ⟨gb101, 1, none⟩ = some (.slice A0_1 l0_1.length c0_1) ∧ w'.cell? ⟨gb101, 2, none⟩ = some (.slice A0_2 l0_2.length c0_2) ∧ w'.cell? ⟨gb102, 0, none⟩ = some (.slice A1_0 l1_0.length c1_0) ∧ w'.cell? ⟨gb102, 1, none⟩ = some (.int .i64 a1_1) ∧ w'.cell? ⟨gb102, 2, none⟩ = some (.int .i64 a1_2) ∧ w'.cell? (ad128.add (x14_2).toNat) = some (.int .i64 (rd t106 x14_2))) ∧ (Kd.R (Kd.int .i64) 3 w' w.heap.size (fun _ => True) (.slice (some ad128) t106.length co88) t106) ∧ (w'.heap[gb101]? = some (.cells #[.slice A0_0 l0_0.length c0_0, .slice A0_1 l0_1.length c0_1, .slice A0_2 l0_2.length c0_2] 96 (0, 0))) ∧ (w'.heap[gb102]? = some (.cells #[.slice A1_0 l1_0.length c1_0, .int .i64 a1_1, .int .i64 a1_2] 26 (0, 0))) ∧ (w'.heap[gb103]? = some (.cells #[.int .u64 a2_0, .int .u64 a2_1, .int .u64 a2_2, .int .u64 a2_3] 33 (0, 0))) ∧ (w'.heap[gb117]? = some (.cells #[.int .u64 t112, .int .u64 t113, .int .u64 t114, .int .u64 t115] 33 (0, 0))) ∧ (w'.heap[gb123]? = some (.cells #[.int .u64 t118, .int .u64 t119, .int .u64 t120, .int .u64 t121] 33 (0, 0))) ∧ (w'.heap[s_]? = some (.cells #[.int .u64 0, .int .u64 0, .int .u64 0, .int .u64 0] 33 (0, 0))) ∧ (w.heap.size ≤ s_) ∧ (w.heap.size ≤ s_) ∧ (gb101 ≠ s_) ∧ (s_ ≠ gb101) ∧ (gb102 ≠ s_) ∧ (s_ ≠ gb102) ∧ (gb103 ≠ s_) ∧ (s_ ≠ gb103) ∧ (gb117 ≠ s_) ∧ (s_ ≠ gb117) ∧ (gb123 ≠ s_) ∧ (s_ ≠ gb123) ∧ (Below w.heap.size w w')) ?_ ?_
  rotate_left
  ·exact L3_
  rintro gb134 w223 ⟨hS_, h0_, h1_, h2_, h3_, h4_, h5_, h6_, h7_, h8_, h9_, h10_, h11_, h12_, h13_, h14_, h15_, h16_, h17_, h18_, h19_⟩
  have n0_ : Aside0 (Kd.R (Kd.int .i64) 3 w223 w.heap.size (fun _ => True) (.slice (some ad128) t106.length co88) t106) := ⟨h0_⟩
  have n1_ : Aside0 (w223.heap[gb101]? = some (.cells #[.slice A0_0 l0_0.length c0_0, .slice A0_1 l0_1.length c0_1, .slice A0_2 l0_2.length c0_2] 96 (0, 0))) := ⟨h1_⟩
  have n2_ : Aside0 (w223.heap[gb102]? = some (.cells #[.slice A1_0 l1_0.length c1_0, .int .i64 a1_1, .int .i64 a1_2] 26 (0, 0))) := ⟨h2_⟩
  have n3_ : Aside0 (w223.heap[gb103]? = some (.cells #[.int .u64 a2_0, .int .u64 a2_1, .int .u64 a2_2, .int .u64 a2_3] 33 (0, 0))) := ⟨h3_⟩
  have n4_ : Aside0 (w223.heap[gb117]? = some (.cells #[.int .u64 t112, .int .u64 t113, .int .u64 t114, .int .u64 t115] 33 (0, 0))) := ⟨h4_⟩
  have n5_ : Aside0 (w223.heap[gb123]? = some (.cells #[.int .u64 t118, .int .u64 t119, .int .u64 t120, .int .u64 t121] 33 (0, 0))) := ⟨h5_⟩
  have n6_ : Aside0 (w223.heap[gb134]? = some (.cells #[.int .u64 0, .int .u64 0, .int .u64 0, .int .u64 0] 33 (0, 0))) := ⟨h6_⟩
  have n7_ : Aside0 (w.heap.size ≤ gb134) := ⟨h7_⟩
  have n8_ : Aside0 (w.heap.size ≤ gb134) := ⟨h8_⟩
  have n9_ : Aside0 (gb101 ≠ gb134) := ⟨h9_⟩
  have n10_ : Aside0 (gb134 ≠ gb101) := ⟨h10_⟩
  have n11_ : Aside0 (gb102 ≠ gb134) := ⟨h11_⟩
  have n12_ : Aside0 (gb134 ≠ gb102) := ⟨h12_⟩
  have n13_ : Aside0 (gb103 ≠ gb134) := ⟨h13_⟩
  have n14_ : Aside0 (gb134 ≠ gb103) := ⟨h14_⟩
  have n15_ : Aside0 (gb117 ≠ gb134) := ⟨h15_⟩
  have n16_ : Aside0 (gb134 ≠ gb117) := ⟨h16_⟩
  have n17_ : Aside0 (gb123 ≠ gb134) := ⟨h17_⟩
  have n18_ : Aside0 (gb134 ≠ gb123) := ⟨h18_⟩
  have n19_ : Aside0 (Below w.heap.size w w223) := ⟨h19_⟩
  clear HO_9
  clear BK101
  clear BK102
  clear BK103
  clear BK117
  clear BK123
  clear HB
  clear h0_ h1_ h2_ h3_ h4_ h5_ h6_ h7_ h8_ h9_ h10_ h11_ h12_ h13_ h14_ h15_ h16_ h17_ h18_ h19_
  have HO_9 := n0_
  have BK101 := n1_
  have BK102 := n2_
  have BK103 := n3_
  have BK117 := n4_
  have BK123 := n5_
  have BK134 := n6_
  have GW134 := n7_
  have GE134 := n8_
  have NB101_134 := n9_
  have NB134_101 := n10_
  have NB102_134 := n11_
  have NB134_102 := n12_
  have NB103_134 := n13_
  have NB134_103 := n14_
  have NB117_134 := n15_
  have NB134_117 := n16_
  have NB123_134 := n17_
  have NB134_123 := n18_
  have HB := n19_
  clear n0_ n1_ n2_ n3_ n4_ n5_ n6_ n7_ n8_ n9_ n10_ n11_ n12_ n13_ n14_ n15_ n16_ n17_ n18_ n19_
  have hHeld : w223.cell? ⟨gb101, 0, none⟩ = some (.slice A0_0 l0_0.length c0_0) ∧ w223.cell? ⟨gb101, 1, none⟩ = some (.slice A0_1 l0_1.length c0_1) ∧ w223.cell? ⟨gb101, 2, none⟩ = some (.slice A0_2 l0_2.length c0_2) ∧ w223.cell? ⟨gb102, 0, none⟩ = some (.slice A1_0 l1_0.length c1_0) ∧ w223.cell? ⟨gb102, 1, none⟩ = some (.int .i64 a1_1) ∧ w223.cell? ⟨gb102, 2, none⟩ = some (.int .i64 a1_2) ∧ w223.cell? (ad128.add (x14_2).toNat) = some (.int .i64 (rd t106 x14_2)) := hS_
  refine norm_ (a' := ?_) ?_ ?_
  rotate_left
  ·simp only [putAll, Act.put, List.setIfInBounds_toArray, List.set_cons_zero, List.set_cons_succ]
   rfl
  refine one_ (i := 11) (N := none) #[true, true, true, true, true, true, true, true, true, true, true, true, false] rfl rfl (one_of HT_.out (by kernel_rfl)) (by decide) (fun K hK => ?_)
  have hs224 : w223.cell? ⟨gb134, 0, none⟩ = some (.int .u64 0) := (blk_cell BK134.out 0).trans rfl
  have hfs224 := blk_frozen BK134.out 0
  have hns224_0 := NB101_134.out
  have hns224_1 := NB102_134.out
  have hns224_2 := NB103_134.out
  have hns224_3 := NB117_134.out
  have hns224_4 := NB123_134.out
  have hms224_0 := NB134_101.out
  have hms224_1 := NB134_102.out
  have hms224_2 := NB134_103.out
  have hms224_3 := NB134_117.out
  have hms224_4 := NB134_123.out
  have hs225 : w223.cell? ⟨gb134, 1, none⟩ = some (.int .u64 0) := (blk_cell BK134.out 1).trans rfl
  have hfs225 := blk_frozen BK134.out 1
  have hns225_0 := NB101_134.out
  have hns225_1 := NB102_134.out
  have hns225_2 := NB103_134.out
  have hns225_3 := NB117_134.out
  have hns225_4 := NB123_134.out
  have hms225_0 := NB134_101.out
  have hms225_1 := NB134_102.out
  have hms225_2 := NB134_103.out
  have hms225_3 := NB134_117.out
  have hms225_4 := NB134_123.out
  have hs226 : w223.cell? ⟨gb134, 2, none⟩ = some (.int .u64 0) := (blk_cell BK134.out 2).trans rfl
  have hfs226 := blk_frozen BK134.out 2
  have hns226_0 := NB101_134.out
  have hns226_1 := NB102_134.out
  have hns226_2 := NB103_134.out
  have hns226_3 := NB117_134.out
  have hns226_4 := NB123_134.out
  have hms226_0 := NB134_101.out
  have hms226_1 := NB134_102.out
  have hms226_2 := NB134_103.out
  have hms226_3 := NB134_117.out
  have hms226_4 := NB134_123.out
  have hs227 : w223.cell? ⟨gb134, 3, none⟩ = some (.int .u64 0) := (blk_cell BK134.out 3).trans rfl
  have hfs227 := blk_frozen BK134.out 3
  have hns227_0 := NB101_134.out
  have hns227_1 := NB102_134.out
  have hns227_2 := NB103_134.out
  have hns227_3 := NB117_134.out
  have hns227_4 := NB123_134.out
  have hms227_0 := NB134_101.out
  have hms227_1 := NB134_102.out
  have hms227_2 := NB134_103.out
  have hms227_3 := NB134_117.out
  have hms227_4 := NB134_123.out
  refine skip_ (w1 := ?_) (by rfl) rfl ?_ ?_
  rotate_left
  ·go_simp
   rfl
  refine hK.out _ _ ⟨((cell_far (p := ⟨gb134, _, none⟩) NB101_134.out _).trans (((cell_far (p := ⟨gb134, _, none⟩) NB101_134.out _).trans (((cell_far (p := ⟨gb134, _, none⟩) NB101_134.out _).trans (((cell_far (p := ⟨gb134, _, none⟩) NB101_134.out _).trans (hHeld.1)))))))), ((cell_far (p := ⟨gb134, _, none⟩) NB101_134.out _).trans (((cell_far (p := ⟨gb134, _, none⟩) NB101_134.out _).trans (((cell_far (p := ⟨gb134, _, none⟩) NB101_134.out _).trans (((cell_far (p := ⟨gb134, _, none⟩) NB101_134.out _).trans (hHeld.2.1)))))))), ((cell_far (p := ⟨gb134, _, none⟩) NB101_134.out _).trans (((cell_far (p := ⟨gb134, _, none⟩) NB101_134.out _).trans (((cell_far (p := ⟨gb134, _, none⟩) NB101_134.out _).trans (((cell_far (p := ⟨gb134, _, none⟩) NB101_134.out _).trans (hHeld.2.2.1)))))))), ((cell_far (p := ⟨gb134, _, none⟩) NB102_134.out _).trans (((cell_far (p := ⟨gb134, _, none⟩) NB102_134.out _).trans (((cell_far (p := ⟨gb134, _, none⟩) NB102_134.out _).trans (((cell_far (p := ⟨gb134, _, none⟩) NB102_134.out _).trans (hHeld.2.2.2.1)))))))), ((cell_far (p := ⟨gb134, _, none⟩) NB102_134.out _).trans (((cell_far (p := ⟨gb134, _, none⟩) NB102_134.out _).trans (((cell_far (p := ⟨gb134, _, none⟩) NB102_134.out _).trans (((cell_far (p := ⟨gb134, _, none⟩) NB102_134.out _).trans (hHeld.2.2.2.2.1)))))))), ((cell_far (p := ⟨gb134, _, none⟩) NB102_134.out _).trans (((cell_far (p := ⟨gb134, _, none⟩) NB102_134.out _).trans (((cell_far (p := ⟨gb134, _, none⟩) NB102_134.out _).trans (((cell_far (p := ⟨gb134, _, none⟩) NB102_134.out _).trans (hHeld.2.2.2.2.2.1)))))))), ((cell_far (p := ⟨gb134, _, none⟩) F9_ _).trans (((cell_far (p := ⟨gb134, _, none⟩) F9_ _).trans (((cell_far (p := ⟨gb134, _, none⟩) F9_ _).trans (((cell_far (p := ⟨gb134, _, none⟩) F9_ _).trans (hHeld.2.2.2.2.2.2))))))))⟩ (fun hHeld => ?_)
  clear hK K
  refine pure_ (i := 12) (N := some 16) (v := ?_) (a' := ?_) #[true, true, true, true, true, true, true, true, true, true, true, true, true] rfl rfl (any_of HT_.out (by kernel_rfl)) (fun _ _ _ h => h) (Or.inl ⟨by rfl, ?_⟩) ?_ ?_
  rotate_left
  ·intro w'
   go_simp
   with_reducible rfl
  rotate_left
  ·simp only [Act.put, List.setIfInBounds_toArray, List.set_cons_zero, List.set_cons_succ, i64_w, i32_w]
   rfl
  refine done_ (done_of HT_.out (by kernel_rfl)) ?_
  have hnb228 := NB134_101.out
  have hnc228 := NB101_134.out
  have hnb229 := NB134_102.out
  have hnc229 := NB102_134.out
  have hnb230 := NB134_103.out
  have hnc230 := NB103_134.out
  have hnb231 := NB134_117.out
  have hnc231 := NB117_134.out
  have hnb232 := NB134_123.out
  have hnc232 := NB123_134.out
  have hcz233_0 : w223.cell? ⟨gb134, 0, none⟩ = some (.int .u64 0) := (blk_cell BK134.out 0).trans rfl
  have hcz233_1 : w223.cell? ⟨gb134, 1, none⟩ = some (.int .u64 0) := (blk_cell BK134.out 1).trans rfl
  have hcz233_2 : w223.cell? ⟨gb134, 2, none⟩ = some (.int .u64 0) := (blk_cell BK134.out 2).trans rfl
  have hcz233_3 : w223.cell? ⟨gb134, 3, none⟩ = some (.int .u64 0) := (blk_cell BK134.out 3).trans rfl
  have hfz233_0 := blk_frozen BK134.out 0
  have hfz233_1 := blk_frozen BK134.out 1
  have hfz233_2 := blk_frozen BK134.out 2
  have hfz233_3 := blk_frozen BK134.out 3
  have hnb234 := NB103_101.out
  have hnc234 := NB101_103.out
  have hnb235 := NB103_102.out
  have hnc235 := NB102_103.out
  have hnb236 := NB103_117.out
  have hnc236 := NB117_103.out
  have hnb237 := NB103_123.out
  have hnc237 := NB123_103.out
  have hcz238_0 : w223.cell? ⟨gb103, 0, none⟩ = some (.int .u64 a2_0) := (blk_cell BK103.out 0).trans rfl
  have hcz238_1 : w223.cell? ⟨gb103, 1, none⟩ = some (.int .u64 a2_1) := (blk_cell BK103.out 1).trans rfl
  have hcz238_2 : w223.cell? ⟨gb103, 2, none⟩ = some (.int .u64 a2_2) := (blk_cell BK103.out 2).trans rfl
  have hcz238_3 : w223.cell? ⟨gb103, 3, none⟩ = some (.int .u64 a2_3) := (blk_cell BK103.out 3).trans rfl
  have hfz238_0 := blk_frozen BK103.out 0
  have hfz238_1 := blk_frozen BK103.out 1
  have hfz238_2 := blk_frozen BK103.out 2
  have hfz238_3 := blk_frozen BK103.out 3
  try go_wp2_with (first | ((with_reducible refine gate_callee (f := 28) rfl ?_); refine goesL_ (some 100) rfl rfl Try.func28 (by kernel_rfl) rfl #[.agg #[.int .u64 t129, .int .u64 t130, .int .u64 t131, .int .u64 t132], .agg #[.int .u64 a2_0, .int .u64 a2_1, .int .u64 a2_2, .int .u64 a2_3]] rfl F10_ ?_; (with_reducible refine (vec_Sub.calls t129 t130 t131 t132 a2_0 a2_1 a2_2 a2_3 t135 t136 t137 t138 t139 _ A123.out).mono ?_); rintro e w239 ⟨rfl, hb⟩; refine ⟨_, rfl, ?_⟩; have n0_ := Aside0.mk (Kd.R_below F30_ hb); have n1_ := Aside0.mk (blk_below (g := gb101) (o := .cells #[.slice A0_0 l0_0.length c0_0, .slice A0_1 l0_1.length c0_1, .slice A0_2 l0_2.length c0_2] 96 (0, 0)) F22_ hb); have n2_ := Aside0.mk (blk_below (g := gb102) (o := .cells #[.slice A1_0 l1_0.length c1_0, .int .i64 a1_1, .int .i64 a1_2] 26 (0, 0)) F23_ hb); have n3_ := Aside0.mk (blk_below (g := gb103) (o := .cells #[.int .u64 a2_0, .int .u64 a2_1, .int .u64 a2_2, .int .u64 a2_3] 33 (0, 0)) F24_ hb); have n4_ := Aside0.mk (blk_below (g := gb117) (o := .cells #[.int .u64 t112, .int .u64 t113, .int .u64 t114, .int .u64 t115] 33 (0, 0)) F25_ hb); have n5_ := Aside0.mk (blk_below (g := gb123) (o := .cells #[.int .u64 t118, .int .u64 t119, .int .u64 t120, .int .u64 t121] 33 (0, 0)) F26_ hb); have n6_ := Aside0.mk (blk_below (g := gb134) (o := .cells #[.int .u64 t129, .int .u64 t130, .int .u64 t131, .int .u64 t132] 33 (0, 0)) F18_ hb); have n7_ := Aside0.mk (below_step F4_ hb); clear HO_9; clear BK101; clear BK102; clear BK103; clear BK117; clear BK123; clear BK134; clear HB; have HO_9 := n0_; have BK101 := n1_; have BK102 := n2_; have BK103 := n3_; have BK117 := n4_; have BK123 := n5_; have BK134 := n6_; have HB := n7_; clear n0_ n1_ n2_ n3_ n4_ n5_ n6_ n7_; (try clear hb); (try clear hb2); (try clear hk); (try clear hi); (try simp only [errW_none, errW_some])) | ((with_reducible refine gate_dst (N := 17) rfl ?_); refine box_event ?hg (N := 17) ?hd (cs := #[.int .u64 0, .int .u64 0, .int .u64 0, .int .u64 0]) (t := 33) ?hr ?_; (case hd => rfl); (case hg => rfl); (case hr => first | (go_simp; done) | (go_simp; rfl)); intro gb140 hg w240 hbox hb; have n0_ := Aside0.mk (Kd.R_below F15_ hb); have n1_ := Aside0.mk (blk_below (g := gb101) (o := .cells #[.slice A0_0 l0_0.length c0_0, .slice A0_1 l0_1.length c0_1, .slice A0_2 l0_2.length c0_2] 96 (0, 0)) F1_ hb); have n2_ := Aside0.mk (blk_below (g := gb102) (o := .cells #[.slice A1_0 l1_0.length c1_0, .int .i64 a1_1, .int .i64 a1_2] 26 (0, 0)) F2_ hb); have n3_ := Aside0.mk (blk_below (g := gb103) (o := .cells #[.int .u64 a2_0, .int .u64 a2_1, .int .u64 a2_2, .int .u64 a2_3] 33 (0, 0)) F3_ hb); have n4_ := Aside0.mk (blk_below (g := gb117) (o := .cells #[.int .u64 t112, .int .u64 t113, .int .u64 t114, .int .u64 t115] 33 (0, 0)) F6_ hb); have n5_ := Aside0.mk (blk_below (g := gb123) (o := .cells #[.int .u64 t118, .int .u64 t119, .int .u64 t120, .int .u64 t121] 33 (0, 0)) F8_ hb); have n6_ := Aside0.mk (blk_below (g := gb134) (o := .cells #[.int .u64 t129, .int .u64 t130, .int .u64 t131, .int .u64 t132] 33 (0, 0)) F17_ hb); have n7_ := Aside0.mk (below_step F4_ hb); have n8_ := Aside0.mk (hbox); have n9_ := Aside0.mk ((by rw [hg]; exact (below_size F4_) : w.heap.size ≤ gb140)); have n10_ := Aside0.mk ((by rw [hg]; exact (below_size F4_) : w.heap.size ≤ gb140)); have n11_ := Aside0.mk ((by rw [hg]; exact Nat.ne_of_lt (blk_lt (g := gb101) (o := .cells #[.slice A0_0 l0_0.length c0_0, .slice A0_1 l0_1.length c0_1, .slice A0_2 l0_2.length c0_2] 96 (0, 0)) F1_) : gb101 ≠ gb140)); have n12_ := Aside0.mk ((by rw [hg]; exact Nat.ne_of_gt (blk_lt (g := gb101) (o := .cells #[.slice A0_0 l0_0.length c0_0, .slice A0_1 l0_1.length c0_1, .slice A0_2 l0_2.length c0_2] 96 (0, 0)) F1_) : gb140 ≠ gb101)); have n13_ := Aside0.mk ((by rw [hg]; exact Nat.ne_of_lt (blk_lt (g := gb102) (o := .cells #[.slice A1_0 l1_0.length c1_0, .int .i64 a1_1, .int .i64 a1_2] 26 (0, 0)) F2_) : gb102 ≠ gb140)); have n14_ := Aside0.mk ((by rw [hg]; exact Nat.ne_of_gt (blk_lt (g := gb102) (o := .cells #[.slice A1_0 l1_0.length c1_0, .int .i64 a1_1, .int .i64 a1_2] 26 (0, 0)) F2_) : gb140 ≠ gb102)); have n15_ := Aside0.mk ((by rw [hg]; exact Nat.ne_of_lt (blk_lt (g := gb103) (o := .cells #[.int .u64 a2_0, .int .u64 a2_1, .int .u64 a2_2, .int .u64 a2_3] 33 (0, 0)) F3_) : gb103 ≠ gb140)); have n16_ := Aside0.mk ((by rw [hg]; exact Nat.ne_of_gt (blk_lt (g := gb103) (o := .cells #[.int .u64 a2_0, .int .u64 a2_1, .int .u64 a2_2, .int .u64 a2_3] 33 (0, 0)) F3_) : gb140 ≠ gb103)); have n17_ := Aside0.mk ((by rw [hg]; exact Nat.ne_of_lt (blk_lt (g := gb117) (o := .cells #[.int .u64 t112, .int .u64 t113, .int .u64 t114, .int .u64 t115] 33 (0, 0)) F6_) : gb117 ≠ gb140)); have n18_ := Aside0.mk ((by rw [hg]; exact Nat.ne_of_gt (blk_lt (g := gb117) (o := .cells #[.int .u64 t112, .int .u64 t113, .int .u64 t114, .int .u64 t115] 33 (0, 0)) F6_) : gb140 ≠ gb117)); have n19_ := Aside0.mk ((by rw [hg]; exact Nat.ne_of_lt (blk_lt (g := gb123) (o := .cells #[.int .u64 t118, .int .u64 t119, .int .u64 t120, .int .u64 t121] 33 (0, 0)) F8_) : gb123 ≠ gb140)); have n20_ := Aside0.mk ((by rw [hg]; exact Nat.ne_of_gt (blk_lt (g := gb123) (o := .cells #[.int .u64 t118, .int .u64 t119, .int .u64 t120, .int .u64 t121] 33 (0, 0)) F8_) : gb140 ≠ gb123)); have n21_ := Aside0.mk ((by rw [hg]; exact Nat.ne_of_lt (blk_lt (g := gb134) (o := .cells #[.int .u64 t129, .int .u64 t130, .int .u64 t131, .int .u64 t132] 33 (0, 0)) F17_) : gb134 ≠ gb140)); have n22_ := Aside0.mk ((by rw [hg]; exact Nat.ne_of_gt (blk_lt (g := gb134) (o := .cells #[.int .u64 t129, .int .u64 t130, .int .u64 t131, .int .u64 t132] 33 (0, 0)) F17_) : gb140 ≠ gb134)); clear HO_9; clear BK101; clear BK102; clear BK103; clear BK117; clear BK123; clear BK134; clear HB; have HO_9 := n0_; have BK101 := n1_; have BK102 := n2_; have BK103 := n3_; have BK117 := n4_; have BK123 := n5_; have BK134 := n6_; have HB := n7_; have BK140 := n8_; have GW140 := n9_; have GE140 := n10_; have NB101_140 := n11_; have NB140_101 := n12_; have NB102_140 := n13_; have NB140_102 := n14_; have NB103_140 := n15_; have NB140_103 := n16_; have NB117_140 := n17_; have NB140_117 := n18_; have NB123_140 := n19_; have NB140_123 := n20_; have NB134_140 := n21_; have NB140_134 := n22_; clear n0_ n1_ n2_ n3_ n4_ n5_ n6_ n7_ n8_ n9_ n10_ n11_ n12_ n13_ n14_ n15_ n16_ n17_ n18_ n19_ n20_ n21_ n22_; clear hb hbox hg; have hnb241 := NB140_101.out; have hnc241 := NB101_140.out; have hnb242 := NB140_102.out; have hnc242 := NB102_140.out; have hnb243 := NB140_103.out; have hnc243 := NB103_140.out; have hnb244 := NB140_117.out; have hnc244 := NB117_140.out; have hnb245 := NB140_123.out; have hnc245 := NB123_140.out; have hnb246 := NB140_134.out; have hnc246 := NB134_140.out; have hcz247_0 : w240.cell? ⟨gb140, 0, none⟩ = some (.int .u64 0) := (blk_cell BK140.out 0).trans rfl; have hcz247_1 : w240.cell? ⟨gb140, 1, none⟩ = some (.int .u64 0) := (blk_cell BK140.out 1).trans rfl; have hcz247_2 : w240.cell? ⟨gb140, 2, none⟩ = some (.int .u64 0) := (blk_cell BK140.out 2).trans rfl; have hcz247_3 : w240.cell? ⟨gb140, 3, none⟩ = some (.int .u64 0) := (blk_cell BK140.out 3).trans rfl; have hfz247_0 := blk_frozen BK140.out 0; have hfz247_1 := blk_frozen BK140.out 1; have hfz247_2 := blk_frozen BK140.out 2; have hfz247_3 := blk_frozen BK140.out 3))
  go_ret
  exact ⟨F39_, F36_⟩) : p := h
theorem L5_ {p : Prop} (h : p := by
  intro hCont
  refine two_ (i := 6) (j := 10) (Ni := some 94) (Nj := some 15) #[true, true, true, true, true, true, true, false, false, false, false, false, false] #[true, true, true, true, true, true, false, false, false, false, true, false, false] rfl rfl rfl rfl (two_of HT_.out (by kernel_rfl)) (by decide) (by decide) (fun K hK => ?_) (fun K hK => ?_)
  ·skip
   refine goes_ Try.func72 (by kernel_rfl) rfl #[.agg #[.slice A0_0 l0_0.length c0_0, .slice A0_1 l0_1.length c0_1, .slice A0_2 l0_2.length c0_2], .agg #[.slice A1_0 l1_0.length c1_0, .int .i64 a1_1, .int .i64 a1_2], .int .i64 (rd t106 x14_2)] (by rfl) rfl rfl F10_ ?_
   with_reducible refine (room_Rest.calls k2 _ _ l0_0 _ _ l0_1 _ _ l0_2 _ _ l1_0 a1_1 a1_2 (rd t106 x14_2) t129 t130 t131 t132 none _ ?side1 ?side2 ?side3 ?side4 ?side5 ?side6 ?side7 ?side8 A122.out).mono ?_
   (case side1 => exact F11_)
   (case side2 => exact HC0_0.out)
   (case side3 => exact F12_)
   (case side4 => exact HC0_1.out)
   (case side5 => exact F13_)
   (case side6 => exact HC0_2.out)
   (case side7 => exact F14_)
   (case side8 => exact HC1_0.out)
   rintro e w127 ⟨rfl, hb⟩
   have HS6_ := (hb.cell (World.block_lt_of_cell? _ _ (hHeld.2.2.2.2.2.2))).trans (hHeld.2.2.2.2.2.2)
   refine ⟨_, rfl, ?_⟩
   have n0_ := Aside0.mk (Kd.R_below F15_ hb)
   have n1_ := Aside0.mk (blk_below (g := gb101) (o := .cells #[.slice A0_0 l0_0.length c0_0, .slice A0_1 l0_1.length c0_1, .slice A0_2 l0_2.length c0_2] 96 (0, 0)) F1_ hb)
   have n2_ := Aside0.mk (blk_below (g := gb102) (o := .cells #[.slice A1_0 l1_0.length c1_0, .int .i64 a1_1, .int .i64 a1_2] 26 (0, 0)) F2_ hb)
   have n3_ := Aside0.mk (blk_below (g := gb103) (o := .cells #[.int .u64 a2_0, .int .u64 a2_1, .int .u64 a2_2, .int .u64 a2_3] 33 (0, 0)) F3_ hb)
   have n4_ := Aside0.mk (blk_below (g := gb117) (o := .cells #[.int .u64 t112, .int .u64 t113, .int .u64 t114, .int .u64 t115] 33 (0, 0)) F6_ hb)
   have n5_ := Aside0.mk (blk_below (g := gb123) (o := .cells #[.int .u64 t118, .int .u64 t119, .int .u64 t120, .int .u64 t121] 33 (0, 0)) F8_ hb)
   have n6_ := Aside0.mk (below_step F5_ hb)
   clear HO_9
   clear BK101
   clear BK102
   clear BK103
   clear BK117
   clear BK123
   clear HB
   have HO_9 := n0_
   have BK101 := n1_
   have BK102 := n2_
   have BK103 := n3_
   have BK117 := n4_
   have BK123 := n5_
   have HB := n6_
   clear n0_ n1_ n2_ n3_ n4_ n5_ n6_
   (try clear hb)
   (try clear hb2)
   (try clear hk)
   (try clear hi)
   (try simp only [errW_none, errW_some])
   refine hK.out _ _ ⟨(blk_cell BK101.out 0).trans rfl, (blk_cell BK101.out 1).trans rfl, (blk_cell BK101.out 2).trans rfl, (blk_cell BK102.out 0).trans rfl, (blk_cell BK102.out 1).trans rfl, (blk_cell BK102.out 2).trans rfl, HS6_⟩ (fun hHeld => ?_)
   clear hK K
   refine norm_ (a' := ?_) ?_ ?_
   rotate_left
   ·show Act.put _ (some 94) _ = _
    simp only [Act.put, List.setIfInBounds_toArray, List.set_cons_zero, List.set_cons_succ, i64_w, i32_w]
    rfl
   refine pure_ (i := 7) (N := some 87) (v := ?_) (a' := ?_) #[true, true, true, true, true, true, true, true, false, false, false, false, false] rfl rfl (any_of HT_.out (by kernel_rfl)) (fun _ _ _ h => h) (Or.inl ⟨by rfl, ?_⟩) ?_ ?_
   rotate_left
   ·intro w'
    go_simp
    with_reducible rfl
   rotate_left
   ·simp only [Act.put, List.setIfInBounds_toArray, List.set_cons_zero, List.set_cons_succ, i64_w, i32_w]
    rfl
   refine pure_ (i := 8) (N := some 95) (v := ?_) (a' := ?_) #[true, true, true, true, true, true, true, true, true, false, false, false, false] rfl rfl (any_of HT_.out (by kernel_rfl)) (fun _ _ _ h => h) (Or.inl ⟨by rfl, ?_⟩) ?_ ?_
   rotate_left
   ·intro w'
    go_simp
    with_reducible rfl
   rotate_left
   ·simp only [Act.put, List.setIfInBounds_toArray, List.set_cons_zero, List.set_cons_succ, i64_w, i32_w]
    rfl
   refine pure_ (i := 9) (N := some 96) (v := ?_) (a' := ?_) #[true, true, true, true, true, true, true, true, true, true, false, false, false] rfl rfl (any_of HT_.out (by kernel_rfl)) (fun _ _ _ h => h) (Or.inl ⟨by rfl, ?_⟩) ?_ ?_
   rotate_left
   ·intro w'
    go_simp
    with_reducible rfl
   rotate_left
   ·simp only [Act.put, List.setIfInBounds_toArray, List.set_cons_zero, List.set_cons_succ, i64_w, i32_w]
    rfl
   refine one_ (i := 10) (N := some 15) #[true, true, true, true, true, true, true, true, true, true, true, false, false] rfl rfl (one_of HT_.out (by kernel_rfl)) (by decide) (fun K hK => ?_)
   refine box_step ?hg (N := 15) ?hd (cs := #[.int .u64 0, .int .u64 0, .int .u64 0, .int .u64 0]) (t := 33) ?hr ?_; (case hd => rfl); (case hg => rfl); (case hr => first | (go_simp; done) | (go_simp; rfl))
   intro gb134 hg w128 hbox hb
   have HS6_ := (hb.cell (World.block_lt_of_cell? _ _ (hHeld.2.2.2.2.2.2))).trans (hHeld.2.2.2.2.2.2)
   have n0_ := Aside0.mk (Kd.R_below F15_ hb)
   have n1_ := Aside0.mk (blk_below (g := gb101) (o := .cells #[.slice A0_0 l0_0.length c0_0, .slice A0_1 l0_1.length c0_1, .slice A0_2 l0_2.length c0_2] 96 (0, 0)) F1_ hb)
   have n2_ := Aside0.mk (blk_below (g := gb102) (o := .cells #[.slice A1_0 l1_0.length c1_0, .int .i64 a1_1, .int .i64 a1_2] 26 (0, 0)) F2_ hb)
   have n3_ := Aside0.mk (blk_below (g := gb103) (o := .cells #[.int .u64 a2_0, .int .u64 a2_1, .int .u64 a2_2, .int .u64 a2_3] 33 (0, 0)) F3_ hb)
   have n4_ := Aside0.mk (blk_below (g := gb117) (o := .cells #[.int .u64 t112, .int .u64 t113, .int .u64 t114, .int .u64 t115] 33 (0, 0)) F6_ hb)
   have n5_ := Aside0.mk (blk_below (g := gb123) (o := .cells #[.int .u64 t118, .int .u64 t119, .int .u64 t120, .int .u64 t121] 33 (0, 0)) F8_ hb)
   have n6_ := Aside0.mk (below_step F5_ hb)
   have n7_ := Aside0.mk (hbox)
   have n8_ := Aside0.mk ((by rw [hg]; exact (below_size F5_) : w.heap.size ≤ gb134))
   have n9_ := Aside0.mk ((by rw [hg]; exact (below_size F5_) : w.heap.size ≤ gb134))
   have n10_ := Aside0.mk ((by rw [hg]; exact Nat.ne_of_lt (blk_lt (g := gb101) (o := .cells #[.slice A0_0 l0_0.length c0_0, .slice A0_1 l0_1.length c0_1, .slice A0_2 l0_2.length c0_2] 96 (0, 0)) F1_) : gb101 ≠ gb134))
   have n11_ := Aside0.mk ((by rw [hg]; exact Nat.ne_of_gt (blk_lt (g := gb101) (o := .cells #[.slice A0_0 l0_0.length c0_0, .slice A0_1 l0_1.length c0_1, .slice A0_2 l0_2.length c0_2] 96 (0, 0)) F1_) : gb134 ≠ gb101))
   have n12_ := Aside0.mk ((by rw [hg]; exact Nat.ne_of_lt (blk_lt (g := gb102) (o := .cells #[.slice A1_0 l1_0.length c1_0, .int .i64 a1_1, .int .i64 a1_2] 26 (0, 0)) F2_) : gb102 ≠ gb134))
   have n13_ := Aside0.mk ((by rw [hg]; exact Nat.ne_of_gt (blk_lt (g := gb102) (o := .cells #[.slice A1_0 l1_0.length c1_0, .int .i64 a1_1, .int .i64 a1_2] 26 (0, 0)) F2_) : gb134 ≠ gb102))
   have n14_ := Aside0.mk ((by rw [hg]; exact Nat.ne_of_lt (blk_lt (g := gb103) (o := .cells #[.int .u64 a2_0, .int .u64 a2_1, .int .u64 a2_2, .int .u64 a2_3] 33 (0, 0)) F3_) : gb103 ≠ gb134))
   have n15_ := Aside0.mk ((by rw [hg]; exact Nat.ne_of_gt (blk_lt (g := gb103) (o := .cells #[.int .u64 a2_0, .int .u64 a2_1, .int .u64 a2_2, .int .u64 a2_3] 33 (0, 0)) F3_) : gb134 ≠ gb103))
   have n16_ := Aside0.mk ((by rw [hg]; exact Nat.ne_of_lt (blk_lt (g := gb117) (o := .cells #[.int .u64 t112, .int .u64 t113, .int .u64 t114, .int .u64 t115] 33 (0, 0)) F6_) : gb117 ≠ gb134))
   have n17_ := Aside0.mk ((by rw [hg]; exact Nat.ne_of_gt (blk_lt (g := gb117) (o := .cells #[.int .u64 t112, .int .u64 t113, .int .u64 t114, .int .u64 t115] 33 (0, 0)) F6_) : gb134 ≠ gb117))
   have n18_ := Aside0.mk ((by rw [hg]; exact Nat.ne_of_lt (blk_lt (g := gb123) (o := .cells #[.int .u64 t118, .int .u64 t119, .int .u64 t120, .int .u64 t121] 33 (0, 0)) F8_) : gb123 ≠ gb134))
   have n19_ := Aside0.mk ((by rw [hg]; exact Nat.ne_of_gt (blk_lt (g := gb123) (o := .cells #[.int .u64 t118, .int .u64 t119, .int .u64 t120, .int .u64 t121] 33 (0, 0)) F8_) : gb134 ≠ gb123))
   clear HO_9
   clear BK101
   clear BK102
   clear BK103
   clear BK117
   clear BK123
   clear HB
   have HO_9 := n0_
   have BK101 := n1_
   have BK102 := n2_
   have BK103 := n3_
   have BK117 := n4_
   have BK123 := n5_
   have HB := n6_
   have BK134 := n7_
   have GW134 := n8_
   have GE134 := n9_
   have NB101_134 := n10_
   have NB134_101 := n11_
   have NB102_134 := n12_
   have NB134_102 := n13_
   have NB103_134 := n14_
   have NB134_103 := n15_
   have NB117_134 := n16_
   have NB134_117 := n17_
   have NB123_134 := n18_
   have NB134_123 := n19_
   clear n0_ n1_ n2_ n3_ n4_ n5_ n6_ n7_ n8_ n9_ n10_ n11_ n12_ n13_ n14_ n15_ n16_ n17_ n18_ n19_
   clear hb hbox hg
   refine hK.out _ _ ⟨(blk_cell BK101.out 0).trans rfl, (blk_cell BK101.out 1).trans rfl, (blk_cell BK101.out 2).trans rfl, (blk_cell BK102.out 0).trans rfl, (blk_cell BK102.out 1).trans rfl, (blk_cell BK102.out 2).trans rfl, HS6_⟩ (fun hHeld => ?_)
   clear hK K
   refine norm_ (a' := ?_) ?_ ?_
   rotate_left
   ·show Act.put _ (some 15) _ = _
    simp only [Act.put, List.setIfInBounds_toArray, List.set_cons_zero, List.set_cons_succ, i64_w, i32_w]
    rfl
   exact norm_ F35_ (hCont (gb134) _ ⟨hHeld, F15_, F1_, F2_, F3_, F6_, F8_, F17_, GW134.out, GE134.out, NB101_134.out, NB134_101.out, NB102_134.out, NB134_102.out, NB103_134.out, NB134_103.out, NB117_134.out, NB134_117.out, NB123_134.out, NB134_123.out, F4_⟩)
  ·skip
   refine box_step ?hg (N := 15) ?hd (cs := #[.int .u64 0, .int .u64 0, .int .u64 0, .int .u64 0]) (t := 33) ?hr ?_; (case hd => rfl); (case hg => rfl); (case hr => first | (go_simp; done) | (go_simp; rfl))
   intro gb134 hg w127 hbox hb
   have HS6_ := (hb.cell (World.block_lt_of_cell? _ _ (hHeld.2.2.2.2.2.2))).trans (hHeld.2.2.2.2.2.2)
   have n0_ := Aside0.mk (Kd.R_below F15_ hb)
   have n1_ := Aside0.mk (blk_below (g := gb101) (o := .cells #[.slice A0_0 l0_0.length c0_0, .slice A0_1 l0_1.length c0_1, .slice A0_2 l0_2.length c0_2] 96 (0, 0)) F1_ hb)
   have n2_ := Aside0.mk (blk_below (g := gb102) (o := .cells #[.slice A1_0 l1_0.length c1_0, .int .i64 a1_1, .int .i64 a1_2] 26 (0, 0)) F2_ hb)
   have n3_ := Aside0.mk (blk_below (g := gb103) (o := .cells #[.int .u64 a2_0, .int .u64 a2_1, .int .u64 a2_2, .int .u64 a2_3] 33 (0, 0)) F3_ hb)
   have n4_ := Aside0.mk (blk_below (g := gb117) (o := .cells #[.int .u64 t112, .int .u64 t113, .int .u64 t114, .int .u64 t115] 33 (0, 0)) F6_ hb)
   have n5_ := Aside0.mk (blk_below (g := gb123) (o := .cells #[.int .u64 t118, .int .u64 t119, .int .u64 t120, .int .u64 t121] 33 (0, 0)) F8_ hb)
   have n6_ := Aside0.mk (below_step F5_ hb)
   have n7_ := Aside0.mk (hbox)
   have n8_ := Aside0.mk ((by rw [hg]; exact (below_size F5_) : w.heap.size ≤ gb134))
   have n9_ := Aside0.mk ((by rw [hg]; exact (below_size F5_) : w.heap.size ≤ gb134))
   have n10_ := Aside0.mk ((by rw [hg]; exact Nat.ne_of_lt (blk_lt (g := gb101) (o := .cells #[.slice A0_0 l0_0.length c0_0, .slice A0_1 l0_1.length c0_1, .slice A0_2 l0_2.length c0_2] 96 (0, 0)) F1_) : gb101 ≠ gb134))
   have n11_ := Aside0.mk ((by rw [hg]; exact Nat.ne_of_gt (blk_lt (g := gb101) (o := .cells #[.slice A0_0 l0_0.length c0_0, .slice A0_1 l0_1.length c0_1, .slice A0_2 l0_2.length c0_2] 96 (0, 0)) F1_) : gb134 ≠ gb101))
   have n12_ := Aside0.mk ((by rw [hg]; exact Nat.ne_of_lt (blk_lt (g := gb102) (o := .cells #[.slice A1_0 l1_0.length c1_0, .int .i64 a1_1, .int .i64 a1_2] 26 (0, 0)) F2_) : gb102 ≠ gb134))
   have n13_ := Aside0.mk ((by rw [hg]; exact Nat.ne_of_gt (blk_lt (g := gb102) (o := .cells #[.slice A1_0 l1_0.length c1_0, .int .i64 a1_1, .int .i64 a1_2] 26 (0, 0)) F2_) : gb134 ≠ gb102))
   have n14_ := Aside0.mk ((by rw [hg]; exact Nat.ne_of_lt (blk_lt (g := gb103) (o := .cells #[.int .u64 a2_0, .int .u64 a2_1, .int .u64 a2_2, .int .u64 a2_3] 33 (0, 0)) F3_) : gb103 ≠ gb134))
   have n15_ := Aside0.mk ((by rw [hg]; exact Nat.ne_of_gt (blk_lt (g := gb103) (o := .cells #[.int .u64 a2_0, .int .u64 a2_1, .int .u64 a2_2, .int .u64 a2_3] 33 (0, 0)) F3_) : gb134 ≠ gb103))
   have n16_ := Aside0.mk ((by rw [hg]; exact Nat.ne_of_lt (blk_lt (g := gb117) (o := .cells #[.int .u64 t112, .int .u64 t113, .int .u64 t114, .int .u64 t115] 33 (0, 0)) F6_) : gb117 ≠ gb134))
   have n17_ := Aside0.mk ((by rw [hg]; exact Nat.ne_of_gt (blk_lt (g := gb117) (o := .cells #[.int .u64 t112, .int .u64 t113, .int .u64 t114, .int .u64 t115] 33 (0, 0)) F6_) : gb134 ≠ gb117))
   have n18_ := Aside0.mk ((by rw [hg]; exact Nat.ne_of_lt (blk_lt (g := gb123) (o := .cells #[.int .u64 t118, .int .u64 t119, .int .u64 t120, .int .u64 t121] 33 (0, 0)) F8_) : gb123 ≠ gb134))
   have n19_ := Aside0.mk ((by rw [hg]; exact Nat.ne_of_gt (blk_lt (g := gb123) (o := .cells #[.int .u64 t118, .int .u64 t119, .int .u64 t120, .int .u64 t121] 33 (0, 0)) F8_) : gb134 ≠ gb123))
   clear HO_9
   clear BK101
   clear BK102
   clear BK103
   clear BK117
   clear BK123
   clear HB
   have HO_9 := n0_
   have BK101 := n1_
   have BK102 := n2_
   have BK103 := n3_
   have BK117 := n4_
   have BK123 := n5_
   have HB := n6_
   have BK134 := n7_
   have GW134 := n8_
   have GE134 := n9_
   have NB101_134 := n10_
   have NB134_101 := n11_
   have NB102_134 := n12_
   have NB134_102 := n13_
   have NB103_134 := n14_
   have NB134_103 := n15_
   have NB117_134 := n16_
   have NB134_117 := n17_
   have NB123_134 := n18_
   have NB134_123 := n19_
   clear n0_ n1_ n2_ n3_ n4_ n5_ n6_ n7_ n8_ n9_ n10_ n11_ n12_ n13_ n14_ n15_ n16_ n17_ n18_ n19_
   clear hb hbox hg
   refine hK.out _ _ ⟨(blk_cell BK101.out 0).trans rfl, (blk_cell BK101.out 1).trans rfl, (blk_cell BK101.out 2).trans rfl, (blk_cell BK102.out 0).trans rfl, (blk_cell BK102.out 1).trans rfl, (blk_cell BK102.out 2).trans rfl, HS6_⟩ (fun hHeld => ?_)
   clear hK K
   refine norm_ (a' := ?_) ?_ ?_
   rotate_left
   ·show Act.put _ (some 15) _ = _
    simp only [Act.put, List.setIfInBounds_toArray, List.set_cons_zero, List.set_cons_succ, i64_w, i32_w]
    rfl
   refine one_ (i := 6) (N := some 94) #[true, true, true, true, true, true, true, false, false, false, true, false, false] rfl rfl (one_of HT_.out (by kernel_rfl)) (by decide) (fun K hK => ?_)
   refine goes_ Try.func72 (by kernel_rfl) rfl #[.agg #[.slice A0_0 l0_0.length c0_0, .slice A0_1 l0_1.length c0_1, .slice A0_2 l0_2.length c0_2], .agg #[.slice A1_0 l1_0.length c1_0, .int .i64 a1_1, .int .i64 a1_2], .int .i64 (rd t106 x14_2)] (by rfl) rfl rfl F10_ ?_
   with_reducible refine (room_Rest.calls k2 _ _ l0_0 _ _ l0_1 _ _ l0_2 _ _ l1_0 a1_1 a1_2 (rd t106 x14_2) t129 t130 t131 t132 none _ ?side1 ?side2 ?side3 ?side4 ?side5 ?side6 ?side7 ?side8 A122.out).mono ?_
   (case side1 => exact F11_)
   (case side2 => exact HC0_0.out)
   (case side3 => exact F12_)
   (case side4 => exact HC0_1.out)
   (case side5 => exact F13_)
   (case side6 => exact HC0_2.out)
   (case side7 => exact F14_)
   (case side8 => exact HC1_0.out)
   rintro e w128 ⟨rfl, hb⟩
   have HS6_ := (hb.cell (World.block_lt_of_cell? _ _ (hHeld.2.2.2.2.2.2))).trans (hHeld.2.2.2.2.2.2)
   refine ⟨_, rfl, ?_⟩
   have n0_ := Aside0.mk (Kd.R_below F15_ hb)
   have n1_ := Aside0.mk (blk_below (g := gb101) (o := .cells #[.slice A0_0 l0_0.length c0_0, .slice A0_1 l0_1.length c0_1, .slice A0_2 l0_2.length c0_2] 96 (0, 0)) F1_ hb)
   have n2_ := Aside0.mk (blk_below (g := gb102) (o := .cells #[.slice A1_0 l1_0.length c1_0, .int .i64 a1_1, .int .i64 a1_2] 26 (0, 0)) F2_ hb)
   have n3_ := Aside0.mk (blk_below (g := gb103) (o := .cells #[.int .u64 a2_0, .int .u64 a2_1, .int .u64 a2_2, .int .u64 a2_3] 33 (0, 0)) F3_ hb)
   have n4_ := Aside0.mk (blk_below (g := gb117) (o := .cells #[.int .u64 t112, .int .u64 t113, .int .u64 t114, .int .u64 t115] 33 (0, 0)) F6_ hb)
   have n5_ := Aside0.mk (blk_below (g := gb123) (o := .cells #[.int .u64 t118, .int .u64 t119, .int .u64 t120, .int .u64 t121] 33 (0, 0)) F8_ hb)
   have n6_ := Aside0.mk (blk_below (g := gb134) (o := .cells #[.int .u64 0, .int .u64 0, .int .u64 0, .int .u64 0] 33 (0, 0)) F17_ hb)
   have n7_ := Aside0.mk (below_step F4_ hb)
   clear HO_9
   clear BK101
   clear BK102
   clear BK103
   clear BK117
   clear BK123
   clear BK134
   clear HB
   have HO_9 := n0_
   have BK101 := n1_
   have BK102 := n2_
   have BK103 := n3_
   have BK117 := n4_
   have BK123 := n5_
   have BK134 := n6_
   have HB := n7_
   clear n0_ n1_ n2_ n3_ n4_ n5_ n6_ n7_
   (try clear hb)
   (try clear hb2)
   (try clear hk)
   (try clear hi)
   (try simp only [errW_none, errW_some])
   refine hK.out _ _ ⟨(blk_cell BK101.out 0).trans rfl, (blk_cell BK101.out 1).trans rfl, (blk_cell BK101.out 2).trans rfl, (blk_cell BK102.out 0).trans rfl, (blk_cell BK102.out 1).trans rfl, (blk_cell BK102.out 2).trans rfl, HS6_⟩ (fun hHeld => ?_)
   clear hK K
   refine norm_ (a' := ?_) ?_ ?_
   rotate_left
   ·show Act.put _ (some 94) _ = _
    simp only [Act.put, List.setIfInBounds_toArray, List.set_cons_zero, List.set_cons_succ, i64_w, i32_w]
    rfl
   refine pure_ (i := 7) (N := some 87) (v := ?_) (a' := ?_) #[true, true, true, true, true, true, true, true, false, false, true, false, false] rfl rfl (any_of HT_.out (by kernel_rfl)) (fun _ _ _ h => h) (Or.inl ⟨by rfl, ?_⟩) ?_ ?_
   rotate_left
   ·intro w'
    go_simp
    with_reducible rfl
   rotate_left
   ·simp only [Act.put, List.setIfInBounds_toArray, List.set_cons_zero, List.set_cons_succ, i64_w, i32_w]
    rfl
   refine pure_ (i := 8) (N := some 95) (v := ?_) (a' := ?_) #[true, true, true, true, true, true, true, true, true, false, true, false, false] rfl rfl (any_of HT_.out (by kernel_rfl)) (fun _ _ _ h => h) (Or.inl ⟨by rfl, ?_⟩) ?_ ?_
   rotate_left
   ·intro w'
    go_simp
    with_reducible rfl
   rotate_left
   ·simp only [Act.put, List.setIfInBounds_toArray, List.set_cons_zero, List.set_cons_succ, i64_w, i32_w]
    rfl
   refine pure_ (i := 9) (N := some 96) (v := ?_) (a' := ?_) #[true, true, true, true, true, true, true, true, true, true, true, false, false] rfl rfl (any_of HT_.out (by kernel_rfl)) (fun _ _ _ h => h) (Or.inl ⟨by rfl, ?_⟩) ?_ ?_
   rotate_left
   ·intro w'
    go_simp
    with_reducible rfl
   rotate_left
   ·simp only [Act.put, List.setIfInBounds_toArray, List.set_cons_zero, List.set_cons_succ, i64_w, i32_w]
    rfl
   exact norm_ F35_ (hCont (gb134) _ ⟨hHeld, F15_, F1_, F2_, F3_, F6_, F8_, F17_, GW134.out, GE134.out, NB101_134.out, NB134_101.out, NB102_134.out, NB134_102.out, NB103_134.out, NB134_103.out, NB117_134.out, NB134_117.out, NB123_134.out, NB134_123.out, F4_⟩)) : p := h
theorem L6_ {p : Prop} (h : p := by
  subst c125
  have H1 : (some false) = some r := by rw [if_pos rfl] at H; exact H
  clear H
  have H := H1
  clear H1
  obtain rfl := Option.some.inj H
  try go_wp2
  have n0_ := Aside0.mk (Kd.R_drew HO_9.out)
  have n1_ := Aside0.mk (blk_drew BK101.out)
  have n2_ := Aside0.mk (blk_drew BK102.out)
  have n3_ := Aside0.mk (blk_drew BK103.out)
  have n4_ := Aside0.mk (blk_drew BK117.out)
  have n5_ := Aside0.mk (blk_drew BK123.out)
  have n6_ := Aside0.mk (below_drew1 HB.out)
  clear HO_9
  clear BK101
  clear BK102
  clear BK103
  clear BK117
  clear BK123
  clear HB
  have HO_9 := n0_
  have BK101 := n1_
  have BK102 := n2_
  have BK103 := n3_
  have BK117 := n4_
  have BK123 := n5_
  have HB := n6_
  clear n0_ n1_ n2_ n3_ n4_ n5_ n6_
  have p128 : 0 ≤ (x14_2 : Int) := of_decide_eq_true F53_
  have q128 : x14_2 < (t106.length : Int) := of_decide_eq_true F53_
  obtain ⟨ad128, e128, hx128_0⟩ := Kd.at_int (Kd.R_reads' HO_9.out).2.2 x14_2 p128 q128
  cases e128
  replace p128 := eq_true p128
  replace q128 := eq_true q128
  refine start_ (n := 13) (S := fun w' => w'.cell? ⟨gb101, 0, none⟩ = some (.slice A0_0 l0_0.length c0_0) ∧ w'.cell? ⟨gb101, 1, none⟩ = some (.slice A0_1 l0_1.length c0_1) ∧ w'.cell? ⟨gb101, 2, none⟩ = some (.slice A0_2 l0_2.length c0_2) ∧ w'.cell? ⟨gb102, 0, none⟩ = some (.slice A1_0 l1_0.length c1_0) ∧ w'.cell? ⟨gb102, 1, none⟩ = some (.int .i64 a1_1) ∧ w'.cell? ⟨gb102, 2, none⟩ = some (.int .i64 a1_2) ∧ w'.cell? (ad128.add (x14_2).toNat) = some (.int .i64 (rd t106 x14_2))) (ds := []) #[false, false, false, false, false, false, false, false, false, false, false, false, false] (by kernel_rfl) rfl rfl ⟨(blk_cell BK101.out 0).trans rfl, (blk_cell BK101.out 1).trans rfl, (blk_cell BK101.out 2).trans rfl, (blk_cell BK102.out 0).trans rfl, (blk_cell BK102.out 1).trans rfl, (blk_cell BK102.out 2).trans rfl, hx128_0⟩ (fun hHeld => ?_); refine with_tabW dunnagelaw14_FitTight.tab15 dunnagelaw14_FitTight.bits15 (fun HT_ HW_ => ?_)
  generalize wr.drew = w126 at HO_9 BK101 BK102 BK103 BK117 BK123 HB hx128_0 hHeld ⊢
  refine pure_ (i := 2) (N := some 90) (v := ?_) (a' := ?_) #[false, false, true, false, false, false, false, false, false, false, false, false, false] rfl rfl (any_of HT_.out (by kernel_rfl)) (fun _ _ _ h => h) (Or.inl ⟨by rfl, ?_⟩) ?_ ?_
  rotate_left
  ·intro w'
   go_simp
   with_reducible rfl
  rotate_left
  ·simp only [Act.put, List.setIfInBounds_toArray, List.set_cons_zero, List.set_cons_succ, i64_w, i32_w]
   rfl
  refine pure_ (i := 3) (N := some 91) (v := ?_) (a' := ?_) #[false, false, true, true, false, false, false, false, false, false, false, false, false] rfl rfl (any_of HT_.out (by kernel_rfl)) (fun _ _ _ h => h) (Or.inl ⟨by rfl, ?_⟩) ?_ ?_
  rotate_left
  ·intro w'
   go_simp
   with_reducible rfl
  rotate_left
  ·simp only [Act.put, List.setIfInBounds_toArray, List.set_cons_zero, List.set_cons_succ, i64_w, i32_w]
   rfl
  refine pure_ (i := 4) (N := some 92) (v := ?_) (a' := ?_) #[false, false, true, true, true, false, false, false, false, false, false, false, false] rfl rfl (any_of HT_.out (by kernel_rfl)) (fun _ _ _ h => h) (Or.inl ⟨by rfl, ?_⟩) ?_ ?_
  rotate_left
  ·intro w'
   go_simp
   with_reducible rfl
  rotate_left
  ·simp only [Act.put, List.setIfInBounds_toArray, List.set_cons_zero, List.set_cons_succ, i64_w, i32_w]
   rfl
  refine take_ (i := 0) (N := some 88) (v := ?_) (a' := ?_) #[true, false, true, true, true, false, false, false, false, false, false, false, false] rfl rfl (take_ofW HT_.out HW_.out (by kernel_rfl)) (fun _ _ _ h => h) (Or.inl ⟨by rfl, ?_⟩) hHeld ?_ ?_
  rotate_left
  ·rintro w' ⟨s0, s1, s2, s3, s4, s5, s6⟩
   go_simp
   with_reducible rfl
  rotate_left
  ·simp only [Act.put, List.setIfInBounds_toArray, List.set_cons_zero, List.set_cons_succ, i64_w, i32_w]
   rfl
  refine take_ (i := 1) (N := some 89) (v := ?_) (a' := ?_) #[true, true, true, true, true, false, false, false, false, false, false, false, false] rfl rfl (take_ofW HT_.out HW_.out (by kernel_rfl)) (fun _ _ _ h => h) (Or.inl ⟨by rfl, ?_⟩) hHeld ?_ ?_
  rotate_left
  ·rintro w' ⟨s0, s1, s2, s3, s4, s5, s6⟩
   go_simp
   with_reducible rfl
  rotate_left
  ·simp only [Act.put, List.setIfInBounds_toArray, List.set_cons_zero, List.set_cons_succ, i64_w, i32_w]
   rfl
  refine take_ (i := 5) (N := some 93) (v := ?_) (a' := ?_) #[true, true, true, true, true, true, false, false, false, false, false, false, false] rfl rfl (take_ofW HT_.out HW_.out (by kernel_rfl)) (fun _ _ _ h => h) (Or.inl ⟨by rfl, ?_⟩) hHeld ?_ ?_
  rotate_left
  ·rintro w' ⟨s0, s1, s2, s3, s4, s5, s6⟩
   go_simp
   with_reducible rfl
  rotate_left
  ·simp only [Act.put, List.setIfInBounds_toArray, List.set_cons_zero, List.set_cons_succ, i64_w, i32_w]
   rfl
  refine join_ (σ := Nat) 2 #[true, true, true, true, true, true, true, true, true, true, true, false, false] (fun s_ => [(94, .tuple #[.agg #[.int .u64 t129, .int .u64 t130, .int .u64 t131, .int .u64 t132], errW none]), (15, .pointer (some ⟨s_, 0, none⟩)), (87, .tuple #[.agg #[.int .u64 t129, .int .u64 t130, .int .u64 t131, .int .u64 t132], errW none]), (95, .agg #[.int .u64 t129, .int .u64 t130, .int .u64 t131, .int .u64 t132]), (96, errW none)]) (fun s_ w' => (w'.cell? ⟨gb101, 0, none⟩ = some (.slice A0_0 l0_0.length c0_0) ∧ w'.cell? ⟨gb101, 1, none⟩ = some (.slice A0_1 l0_1.length c0_1) ∧ w'.cell? ⟨gb101, 2, none⟩ = some (.slice A0_2 l0_2.length c0_2) ∧ w'.cell? ⟨gb102, 0, none⟩ = some (.slice A1_0 l1_0.length c1_0) ∧ w'.cell? ⟨gb102, 1, none⟩ = some (.int .i64 a1_1) ∧ w'.cell? ⟨gb102, 2, none⟩ = some (.int .i64 a1_2) ∧ w'.cell? (ad128.add (x14_2).toNat) = some (.int .i64 (rd t106 x14_2))) ∧ (Kd.R (Kd.int .i64) 3 w' w.heap.size (fun _ => True) (.slice (some ad128) t106.length co88) t106) ∧ (w'.heap[gb101]? = some (.cells #[.slice A0_0 l0_0.length c0_0, .slice A0_1 l0_1.length c0_1, .slice A0_2 l0_2.length c0_2] 96 (0, 0))) ∧ (w'.heap[gb102]? = some (.cells #[.slice A1_0 l1_0.length c1_0, .int .i64 a1_1, .int .i64 a1_2] 26 (0, 0))) ∧ (w'.heap[gb103]? = some (.cells #[.int .u64 a2_0, .int .u64 a2_1, .int .u64 a2_2, .int .u64 a2_3] 33 (0, 0))) ∧ (w'.heap[gb117]? = some (.cells #[.int .u64 t112, .int .u64 t113, .int .u64 t114, .int .u64 t115] 33 (0, 0))) ∧ (w'.heap[gb123]? = some (.cells #[.int .u64 t118, .int .u64 t119, .int .u64 t120, .int .u64 t121] 33 (0, 0))) ∧ (w'.heap[s_]? = some (.cells #[.int .u64 0, .int .u64 0, .int .u64 0, .int .u64 0] 33 (0, 0))) ∧ (w.heap.size ≤ s_) ∧ (w.heap.size ≤ s_) ∧ (gb101 ≠ s_) ∧ (s_ ≠ gb101) ∧ (gb102 ≠ s_) ∧ (s_ ≠ gb102) ∧ (gb103 ≠ s_) ∧ (s_ ≠ gb103) ∧ (gb117 ≠ s_) ∧ (s_ ≠ gb117) ∧ (gb123 ≠ s_) ∧ (s_ ≠ gb123) ∧ (Below w.heap.size w w')) ?_ ?_
  rotate_left
  ·exact L5_
  rintro gb134 w129 ⟨hS_, h0_, h1_, h2_, h3_, h4_, h5_, h6_, h7_, h8_, h9_, h10_, h11_, h12_, h13_, h14_, h15_, h16_, h17_, h18_, h19_⟩
  have n0_ : Aside0 (Kd.R (Kd.int .i64) 3 w129 w.heap.size (fun _ => True) (.slice (some ad128) t106.length co88) t106) := ⟨h0_⟩
  have n1_ : Aside0 (w129.heap[gb101]? = some (.cells #[.slice A0_0 l0_0.length c0_0, .slice A0_1 l0_1.length c0_1, .slice A0_2 l0_2.length c0_2] 96 (0, 0))) := ⟨h1_⟩
  have n2_ : Aside0 (w129.heap[gb102]? = some (.cells #[.slice A1_0 l1_0.length c1_0, .int .i64 a1_1, .int .i64 a1_2] 26 (0, 0))) := ⟨h2_⟩
  have n3_ : Aside0 (w129.heap[gb103]? = some (.cells #[.int .u64 a2_0, .int .u64 a2_1, .int .u64 a2_2, .int .u64 a2_3] 33 (0, 0))) := ⟨h3_⟩
  have n4_ : Aside0 (w129.heap[gb117]? = some (.cells #[.int .u64 t112, .int .u64 t113, .int .u64 t114, .int .u64 t115] 33 (0, 0))) := ⟨h4_⟩
  have n5_ : Aside0 (w129.heap[gb123]? = some (.cells #[.int .u64 t118, .int .u64 t119, .int .u64 t120, .int .u64 t121] 33 (0, 0))) := ⟨h5_⟩
  have n6_ : Aside0 (w129.heap[gb134]? = some (.cells #[.int .u64 0, .int .u64 0, .int .u64 0, .int .u64 0] 33 (0, 0))) := ⟨h6_⟩
  have n7_ : Aside0 (w.heap.size ≤ gb134) := ⟨h7_⟩
  have n8_ : Aside0 (w.heap.size ≤ gb134) := ⟨h8_⟩
  have n9_ : Aside0 (gb101 ≠ gb134) := ⟨h9_⟩
  have n10_ : Aside0 (gb134 ≠ gb101) := ⟨h10_⟩
  have n11_ : Aside0 (gb102 ≠ gb134) := ⟨h11_⟩
  have n12_ : Aside0 (gb134 ≠ gb102) := ⟨h12_⟩
  have n13_ : Aside0 (gb103 ≠ gb134) := ⟨h13_⟩
  have n14_ : Aside0 (gb134 ≠ gb103) := ⟨h14_⟩
  have n15_ : Aside0 (gb117 ≠ gb134) := ⟨h15_⟩
  have n16_ : Aside0 (gb134 ≠ gb117) := ⟨h16_⟩
  have n17_ : Aside0 (gb123 ≠ gb134) := ⟨h17_⟩
  have n18_ : Aside0 (gb134 ≠ gb123) := ⟨h18_⟩
  have n19_ : Aside0 (Below w.heap.size w w129) := ⟨h19_⟩
  clear HO_9
  clear BK101
  clear BK102
  clear BK103
  clear BK117
  clear BK123
  clear HB
  clear h0_ h1_ h2_ h3_ h4_ h5_ h6_ h7_ h8_ h9_ h10_ h11_ h12_ h13_ h14_ h15_ h16_ h17_ h18_ h19_
  have HO_9 := n0_
  have BK101 := n1_
  have BK102 := n2_
  have BK103 := n3_
  have BK117 := n4_
  have BK123 := n5_
  have BK134 := n6_
  have GW134 := n7_
  have GE134 := n8_
  have NB101_134 := n9_
  have NB134_101 := n10_
  have NB102_134 := n11_
  have NB134_102 := n12_
  have NB103_134 := n13_
  have NB134_103 := n14_
  have NB117_134 := n15_
  have NB134_117 := n16_
  have NB123_134 := n17_
  have NB134_123 := n18_
  have HB := n19_
  clear n0_ n1_ n2_ n3_ n4_ n5_ n6_ n7_ n8_ n9_ n10_ n11_ n12_ n13_ n14_ n15_ n16_ n17_ n18_ n19_
  have hHeld : w129.cell? ⟨gb101, 0, none⟩ = some (.slice A0_0 l0_0.length c0_0) ∧ w129.cell? ⟨gb101, 1, none⟩ = some (.slice A0_1 l0_1.length c0_1) ∧ w129.cell? ⟨gb101, 2, none⟩ = some (.slice A0_2 l0_2.length c0_2) ∧ w129.cell? ⟨gb102, 0, none⟩ = some (.slice A1_0 l1_0.length c1_0) ∧ w129.cell? ⟨gb102, 1, none⟩ = some (.int .i64 a1_1) ∧ w129.cell? ⟨gb102, 2, none⟩ = some (.int .i64 a1_2) ∧ w129.cell? (ad128.add (x14_2).toNat) = some (.int .i64 (rd t106 x14_2)) := hS_
  refine norm_ (a' := ?_) ?_ ?_
  rotate_left
  ·simp only [putAll, Act.put, List.setIfInBounds_toArray, List.set_cons_zero, List.set_cons_succ]
   rfl
  refine one_ (i := 11) (N := none) #[true, true, true, true, true, true, true, true, true, true, true, true, false] rfl rfl (one_of HT_.out (by kernel_rfl)) (by decide) (fun K hK => ?_)
  have hs130 : w129.cell? ⟨gb134, 0, none⟩ = some (.int .u64 0) := (blk_cell BK134.out 0).trans rfl
  have hfs130 := blk_frozen BK134.out 0
  have hns130_0 := NB101_134.out
  have hns130_1 := NB102_134.out
  have hns130_2 := NB103_134.out
  have hns130_3 := NB117_134.out
  have hns130_4 := NB123_134.out
  have hms130_0 := NB134_101.out
  have hms130_1 := NB134_102.out
  have hms130_2 := NB134_103.out
  have hms130_3 := NB134_117.out
  have hms130_4 := NB134_123.out
  have hs131 : w129.cell? ⟨gb134, 1, none⟩ = some (.int .u64 0) := (blk_cell BK134.out 1).trans rfl
  have hfs131 := blk_frozen BK134.out 1
  have hns131_0 := NB101_134.out
  have hns131_1 := NB102_134.out
  have hns131_2 := NB103_134.out
  have hns131_3 := NB117_134.out
  have hns131_4 := NB123_134.out
  have hms131_0 := NB134_101.out
  have hms131_1 := NB134_102.out
  have hms131_2 := NB134_103.out
  have hms131_3 := NB134_117.out
  have hms131_4 := NB134_123.out
  have hs132 : w129.cell? ⟨gb134, 2, none⟩ = some (.int .u64 0) := (blk_cell BK134.out 2).trans rfl
  have hfs132 := blk_frozen BK134.out 2
  have hns132_0 := NB101_134.out
  have hns132_1 := NB102_134.out
  have hns132_2 := NB103_134.out
  have hns132_3 := NB117_134.out
  have hns132_4 := NB123_134.out
  have hms132_0 := NB134_101.out
  have hms132_1 := NB134_102.out
  have hms132_2 := NB134_103.out
  have hms132_3 := NB134_117.out
  have hms132_4 := NB134_123.out
  have hs133 : w129.cell? ⟨gb134, 3, none⟩ = some (.int .u64 0) := (blk_cell BK134.out 3).trans rfl
  have hfs133 := blk_frozen BK134.out 3
  have hns133_0 := NB101_134.out
  have hns133_1 := NB102_134.out
  have hns133_2 := NB103_134.out
  have hns133_3 := NB117_134.out
  have hns133_4 := NB123_134.out
  have hms133_0 := NB134_101.out
  have hms133_1 := NB134_102.out
  have hms133_2 := NB134_103.out
  have hms133_3 := NB134_117.out
  have hms133_4 := NB134_123.out
  refine skip_ (w1 := ?_) (by rfl) rfl ?_ ?_
  rotate_left
  ·go_simp
   rfl
  refine hK.out _ _ ⟨((cell_far (p := ⟨gb134, _, none⟩) NB101_134.out _).trans (((cell_far (p := ⟨gb134, _, none⟩) NB101_134.out _).trans (((cell_far (p := ⟨gb134, _, none⟩) NB101_134.out _).trans (((cell_far (p := ⟨gb134, _, none⟩) NB101_134.out _).trans (hHeld.1)))))))), ((cell_far (p := ⟨gb134, _, none⟩) NB101_134.out _).trans (((cell_far (p := ⟨gb134, _, none⟩) NB101_134.out _).trans (((cell_far (p := ⟨gb134, _, none⟩) NB101_134.out _).trans (((cell_far (p := ⟨gb134, _, none⟩) NB101_134.out _).trans (hHeld.2.1)))))))), ((cell_far (p := ⟨gb134, _, none⟩) NB101_134.out _).trans (((cell_far (p := ⟨gb134, _, none⟩) NB101_134.out _).trans (((cell_far (p := ⟨gb134, _, none⟩) NB101_134.out _).trans (((cell_far (p := ⟨gb134, _, none⟩) NB101_134.out _).trans (hHeld.2.2.1)))))))), ((cell_far (p := ⟨gb134, _, none⟩) NB102_134.out _).trans (((cell_far (p := ⟨gb134, _, none⟩) NB102_134.out _).trans (((cell_far (p := ⟨gb134, _, none⟩) NB102_134.out _).trans (((cell_far (p := ⟨gb134, _, none⟩) NB102_134.out _).trans (hHeld.2.2.2.1)))))))), ((cell_far (p := ⟨gb134, _, none⟩) NB102_134.out _).trans (((cell_far (p := ⟨gb134, _, none⟩) NB102_134.out _).trans (((cell_far (p := ⟨gb134, _, none⟩) NB102_134.out _).trans (((cell_far (p := ⟨gb134, _, none⟩) NB102_134.out _).trans (hHeld.2.2.2.2.1)))))))), ((cell_far (p := ⟨gb134, _, none⟩) NB102_134.out _).trans (((cell_far (p := ⟨gb134, _, none⟩) NB102_134.out _).trans (((cell_far (p := ⟨gb134, _, none⟩) NB102_134.out _).trans (((cell_far (p := ⟨gb134, _, none⟩) NB102_134.out _).trans (hHeld.2.2.2.2.2.1)))))))), ((cell_far (p := ⟨gb134, _, none⟩) F9_ _).trans (((cell_far (p := ⟨gb134, _, none⟩) F9_ _).trans (((cell_far (p := ⟨gb134, _, none⟩) F9_ _).trans (((cell_far (p := ⟨gb134, _, none⟩) F9_ _).trans (hHeld.2.2.2.2.2.2))))))))⟩ (fun hHeld => ?_)
  clear hK K
  refine pure_ (i := 12) (N := some 16) (v := ?_) (a' := ?_) #[true, true, true, true, true, true, true, true, true, true, true, true, true] rfl rfl (any_of HT_.out (by kernel_rfl)) (fun _ _ _ h => h) (Or.inl ⟨by rfl, ?_⟩) ?_ ?_
  rotate_left
  ·intro w'
   go_simp
   with_reducible rfl
  rotate_left
  ·simp only [Act.put, List.setIfInBounds_toArray, List.set_cons_zero, List.set_cons_succ, i64_w, i32_w]
   rfl
  refine done_ (done_of HT_.out (by kernel_rfl)) ?_
  have hnb134 := NB134_101.out
  have hnc134 := NB101_134.out
  have hnb135 := NB134_102.out
  have hnc135 := NB102_134.out
  have hnb136 := NB134_103.out
  have hnc136 := NB103_134.out
  have hnb137 := NB134_117.out
  have hnc137 := NB117_134.out
  have hnb138 := NB134_123.out
  have hnc138 := NB123_134.out
  have hcz139_0 : w129.cell? ⟨gb134, 0, none⟩ = some (.int .u64 0) := (blk_cell BK134.out 0).trans rfl
  have hcz139_1 : w129.cell? ⟨gb134, 1, none⟩ = some (.int .u64 0) := (blk_cell BK134.out 1).trans rfl
  have hcz139_2 : w129.cell? ⟨gb134, 2, none⟩ = some (.int .u64 0) := (blk_cell BK134.out 2).trans rfl
  have hcz139_3 : w129.cell? ⟨gb134, 3, none⟩ = some (.int .u64 0) := (blk_cell BK134.out 3).trans rfl
  have hfz139_0 := blk_frozen BK134.out 0
  have hfz139_1 := blk_frozen BK134.out 1
  have hfz139_2 := blk_frozen BK134.out 2
  have hfz139_3 := blk_frozen BK134.out 3
  have hnb140 := NB103_101.out
  have hnc140 := NB101_103.out
  have hnb141 := NB103_102.out
  have hnc141 := NB102_103.out
  have hnb142 := NB103_117.out
  have hnc142 := NB117_103.out
  have hnb143 := NB103_123.out
  have hnc143 := NB123_103.out
  have hcz144_0 : w129.cell? ⟨gb103, 0, none⟩ = some (.int .u64 a2_0) := (blk_cell BK103.out 0).trans rfl
  have hcz144_1 : w129.cell? ⟨gb103, 1, none⟩ = some (.int .u64 a2_1) := (blk_cell BK103.out 1).trans rfl
  have hcz144_2 : w129.cell? ⟨gb103, 2, none⟩ = some (.int .u64 a2_2) := (blk_cell BK103.out 2).trans rfl
  have hcz144_3 : w129.cell? ⟨gb103, 3, none⟩ = some (.int .u64 a2_3) := (blk_cell BK103.out 3).trans rfl
  have hfz144_0 := blk_frozen BK103.out 0
  have hfz144_1 := blk_frozen BK103.out 1
  have hfz144_2 := blk_frozen BK103.out 2
  have hfz144_3 := blk_frozen BK103.out 3
  try go_wp2_with (first | ((with_reducible refine gate_callee (f := 28) rfl ?_); refine goesL_ (some 100) rfl rfl Try.func28 (by kernel_rfl) rfl #[.agg #[.int .u64 t129, .int .u64 t130, .int .u64 t131, .int .u64 t132], .agg #[.int .u64 a2_0, .int .u64 a2_1, .int .u64 a2_2, .int .u64 a2_3]] rfl F10_ ?_; (with_reducible refine (vec_Sub.calls t129 t130 t131 t132 a2_0 a2_1 a2_2 a2_3 t135 t136 t137 t138 none _ A123.out).mono ?_); rintro e w145 ⟨rfl, hb⟩; refine ⟨_, rfl, ?_⟩; have n0_ := Aside0.mk (Kd.R_below F30_ hb); have n1_ := Aside0.mk (blk_below (g := gb101) (o := .cells #[.slice A0_0 l0_0.length c0_0, .slice A0_1 l0_1.length c0_1, .slice A0_2 l0_2.length c0_2] 96 (0, 0)) F22_ hb); have n2_ := Aside0.mk (blk_below (g := gb102) (o := .cells #[.slice A1_0 l1_0.length c1_0, .int .i64 a1_1, .int .i64 a1_2] 26 (0, 0)) F23_ hb); have n3_ := Aside0.mk (blk_below (g := gb103) (o := .cells #[.int .u64 a2_0, .int .u64 a2_1, .int .u64 a2_2, .int .u64 a2_3] 33 (0, 0)) F24_ hb); have n4_ := Aside0.mk (blk_below (g := gb117) (o := .cells #[.int .u64 t112, .int .u64 t113, .int .u64 t114, .int .u64 t115] 33 (0, 0)) F25_ hb); have n5_ := Aside0.mk (blk_below (g := gb123) (o := .cells #[.int .u64 t118, .int .u64 t119, .int .u64 t120, .int .u64 t121] 33 (0, 0)) F26_ hb); have n6_ := Aside0.mk (blk_below (g := gb134) (o := .cells #[.int .u64 t129, .int .u64 t130, .int .u64 t131, .int .u64 t132] 33 (0, 0)) F18_ hb); have n7_ := Aside0.mk (below_step F4_ hb); clear HO_9; clear BK101; clear BK102; clear BK103; clear BK117; clear BK123; clear BK134; clear HB; have HO_9 := n0_; have BK101 := n1_; have BK102 := n2_; have BK103 := n3_; have BK117 := n4_; have BK123 := n5_; have BK134 := n6_; have HB := n7_; clear n0_ n1_ n2_ n3_ n4_ n5_ n6_ n7_; (try clear hb); (try clear hb2); (try clear hk); (try clear hi); (try simp only [errW_none, errW_some])) | ((with_reducible refine gate_dst (N := 17) rfl ?_); refine box_event ?hg (N := 17) ?hd (cs := #[.int .u64 0, .int .u64 0, .int .u64 0, .int .u64 0]) (t := 33) ?hr ?_; (case hd => rfl); (case hg => rfl); (case hr => first | (go_simp; done) | (go_simp; rfl)); intro gb140 hg w146 hbox hb; have n0_ := Aside0.mk (Kd.R_below F15_ hb); have n1_ := Aside0.mk (blk_below (g := gb101) (o := .cells #[.slice A0_0 l0_0.length c0_0, .slice A0_1 l0_1.length c0_1, .slice A0_2 l0_2.length c0_2] 96 (0, 0)) F1_ hb); have n2_ := Aside0.mk (blk_below (g := gb102) (o := .cells #[.slice A1_0 l1_0.length c1_0, .int .i64 a1_1, .int .i64 a1_2] 26 (0, 0)) F2_ hb); have n3_ := Aside0.mk (blk_below (g := gb103) (o := .cells #[.int .u64 a2_0, .int .u64 a2_1, .int .u64 a2_2, .int .u64 a2_3] 33 (0, 0)) F3_ hb); have n4_ := Aside0.mk (blk_below (g := gb117) (o := .cells #[.int .u64 t112, .int .u64 t113, .int .u64 t114, .int .u64 t115] 33 (0, 0)) F6_ hb); have n5_ := Aside0.mk (blk_below (g := gb123) (o := .cells #[.int .u64 t118, .int .u64 t119, .int .u64 t120, .int .u64 t121] 33 (0, 0)) F8_ hb); have n6_ := Aside0.mk (blk_below (g := gb134) (o := .cells #[.int .u64 t129, .int .u64 t130, .int .u64 t131, .int .u64 t132] 33 (0, 0)) F17_ hb); have n7_ := Aside0.mk (below_step F4_ hb); have n8_ := Aside0.mk (hbox); have n9_ := Aside0.mk ((by rw [hg]; exact (below_size F4_) : w.heap.size ≤ gb140)); have n10_ := Aside0.mk ((by rw [hg]; exact (below_size F4_) : w.heap.size ≤ gb140)); have n11_ := Aside0.mk ((by rw [hg]; exact Nat.ne_of_lt (blk_lt (g := gb101) (o := .cells #[.slice A0_0 l0_0.length c0_0, .slice A0_1 l0_1.length c0_1, .slice A0_2 l0_2.length c0_2] 96 (0, 0)) F1_) : gb101 ≠ gb140)); have n12_ := Aside0.mk ((by rw [hg]; exact Nat.ne_of_gt (blk_lt (g := gb101) (o := .cells #[.slice A0_0 l0_0.length c0_0, .slice A0_1 l0_1.length c0_1, .slice A0_2 l0_2.length c0_2] 96 (0, 0)) F1_) : gb140 ≠ gb101)); have n13_ := Aside0.mk ((by rw [hg]; exact Nat.ne_of_lt (blk_lt (g := gb102) (o := .cells #[.slice A1_0 l1_0.length c1_0, .int .i64 a1_1, .int .i64 a1_2] 26 (0, 0)) F2_) : gb102 ≠ gb140)); have n14_ := Aside0.mk ((by rw [hg]; exact Nat.ne_of_gt (blk_lt (g := gb102) (o := .cells #[.slice A1_0 l1_0.length c1_0, .int .i64 a1_1, .int .i64 a1_2] 26 (0, 0)) F2_) : gb140 ≠ gb102)); have n15_ := Aside0.mk ((by rw [hg]; exact Nat.ne_of_lt (blk_lt (g := gb103) (o := .cells #[.int .u64 a2_0, .int .u64 a2_1, .int .u64 a2_2, .int .u64 a2_3] 33 (0, 0)) F3_) : gb103 ≠ gb140)); have n16_ := Aside0.mk ((by rw [hg]; exact Nat.ne_of_gt (blk_lt (g := gb103) (o := .cells #[.int .u64 a2_0, .int .u64 a2_1, .int .u64 a2_2, .int .u64 a2_3] 33 (0, 0)) F3_) : gb140 ≠ gb103)); have n17_ := Aside0.mk ((by rw [hg]; exact Nat.ne_of_lt (blk_lt (g := gb117) (o := .cells #[.int .u64 t112, .int .u64 t113, .int .u64 t114, .int .u64 t115] 33 (0, 0)) F6_) : gb117 ≠ gb140)); have n18_ := Aside0.mk ((by rw [hg]; exact Nat.ne_of_gt (blk_lt (g := gb117) (o := .cells #[.int .u64 t112, .int .u64 t113, .int .u64 t114, .int .u64 t115] 33 (0, 0)) F6_) : gb140 ≠ gb117)); have n19_ := Aside0.mk ((by rw [hg]; exact Nat.ne_of_lt (blk_lt (g := gb123) (o := .cells #[.int .u64 t118, .int .u64 t119, .int .u64 t120, .int .u64 t121] 33 (0, 0)) F8_) : gb123 ≠ gb140)); have n20_ := Aside0.mk ((by rw [hg]; exact Nat.ne_of_gt (blk_lt (g := gb123) (o := .cells #[.int .u64 t118, .int .u64 t119, .int .u64 t120, .int .u64 t121] 33 (0, 0)) F8_) : gb140 ≠ gb123)); have n21_ := Aside0.mk ((by rw [hg]; exact Nat.ne_of_lt (blk_lt (g := gb134) (o := .cells #[.int .u64 t129, .int .u64 t130, .int .u64 t131, .int .u64 t132] 33 (0, 0)) F17_) : gb134 ≠ gb140)); have n22_ := Aside0.mk ((by rw [hg]; exact Nat.ne_of_gt (blk_lt (g := gb134) (o := .cells #[.int .u64 t129, .int .u64 t130, .int .u64 t131, .int .u64 t132] 33 (0, 0)) F17_) : gb140 ≠ gb134)); clear HO_9; clear BK101; clear BK102; clear BK103; clear BK117; clear BK123; clear BK134; clear HB; have HO_9 := n0_; have BK101 := n1_; have BK102 := n2_; have BK103 := n3_; have BK117 := n4_; have BK123 := n5_; have BK134 := n6_; have HB := n7_; have BK140 := n8_; have GW140 := n9_; have GE140 := n10_; have NB101_140 := n11_; have NB140_101 := n12_; have NB102_140 := n13_; have NB140_102 := n14_; have NB103_140 := n15_; have NB140_103 := n16_; have NB117_140 := n17_; have NB140_117 := n18_; have NB123_140 := n19_; have NB140_123 := n20_; have NB134_140 := n21_; have NB140_134 := n22_; clear n0_ n1_ n2_ n3_ n4_ n5_ n6_ n7_ n8_ n9_ n10_ n11_ n12_ n13_ n14_ n15_ n16_ n17_ n18_ n19_ n20_ n21_ n22_; clear hb hbox hg; have hnb147 := NB140_101.out; have hnc147 := NB101_140.out; have hnb148 := NB140_102.out; have hnc148 := NB102_140.out; have hnb149 := NB140_103.out; have hnc149 := NB103_140.out; have hnb150 := NB140_117.out; have hnc150 := NB117_140.out; have hnb151 := NB140_123.out; have hnc151 := NB123_140.out; have hnb152 := NB140_134.out; have hnc152 := NB134_140.out; have hcz153_0 : w146.cell? ⟨gb140, 0, none⟩ = some (.int .u64 0) := (blk_cell BK140.out 0).trans rfl; have hcz153_1 : w146.cell? ⟨gb140, 1, none⟩ = some (.int .u64 0) := (blk_cell BK140.out 1).trans rfl; have hcz153_2 : w146.cell? ⟨gb140, 2, none⟩ = some (.int .u64 0) := (blk_cell BK140.out 2).trans rfl; have hcz153_3 : w146.cell? ⟨gb140, 3, none⟩ = some (.int .u64 0) := (blk_cell BK140.out 3).trans rfl; have hfz153_0 := blk_frozen BK140.out 0; have hfz153_1 := blk_frozen BK140.out 1; have hfz153_2 := blk_frozen BK140.out 2; have hfz153_3 := blk_frozen BK140.out 3; have hnb154 := NB123_101.out; have hnc154 := NB101_123.out; have hnb155 := NB123_102.out; have hnc155 := NB102_123.out; have hnb156 := NB123_117.out; have hnc156 := NB117_123.out; have hcz157_0 : w146.cell? ⟨gb123, 0, none⟩ = some (.int .u64 t118) := (blk_cell BK123.out 0).trans rfl; have hcz157_1 : w146.cell? ⟨gb123, 1, none⟩ = some (.int .u64 t119) := (blk_cell BK123.out 1).trans rfl; have hcz157_2 : w146.cell? ⟨gb123, 2, none⟩ = some (.int .u64 t120) := (blk_cell BK123.out 2).trans rfl; have hcz157_3 : w146.cell? ⟨gb123, 3, none⟩ = some (.int .u64 t121) := (blk_cell BK123.out 3).trans rfl; have hfz157_0 := blk_frozen BK123.out 0; have hfz157_1 := blk_frozen BK123.out 1; have hfz157_2 := blk_frozen BK123.out 2; have hfz157_3 := blk_frozen BK123.out 3) | (go_at_call 64; (with_reducible refine (fit_Tighter.calls t135 t136 t137 t138 t118 t119 t120 t121 true _ A124.out).mono ?_); rintro e w158 ⟨rfl, hb⟩; have n0_ := Aside0.mk (Kd.R_below F52_ hb); have n1_ := Aside0.mk (blk_below (g := gb101) (o := .cells #[.slice A0_0 l0_0.length c0_0, .slice A0_1 l0_1.length c0_1, .slice A0_2 l0_2.length c0_2] 96 (0, 0)) F41_ hb); have n2_ := Aside0.mk (blk_below (g := gb102) (o := .cells #[.slice A1_0 l1_0.length c1_0, .int .i64 a1_1, .int .i64 a1_2] 26 (0, 0)) F42_ hb); have n3_ := Aside0.mk (blk_below (g := gb103) (o := .cells #[.int .u64 a2_0, .int .u64 a2_1, .int .u64 a2_2, .int .u64 a2_3] 33 (0, 0)) F43_ hb); have n4_ := Aside0.mk (blk_below (g := gb117) (o := .cells #[.int .u64 t112, .int .u64 t113, .int .u64 t114, .int .u64 t115] 33 (0, 0)) F44_ hb); have n5_ := Aside0.mk (blk_below (g := gb123) (o := .cells #[.int .u64 t118, .int .u64 t119, .int .u64 t120, .int .u64 t121] 33 (0, 0)) F45_ hb); have n6_ := Aside0.mk (blk_below (g := gb134) (o := .cells #[.int .u64 t129, .int .u64 t130, .int .u64 t131, .int .u64 t132] 33 (0, 0)) F46_ hb); have n7_ := Aside0.mk (blk_below (g := gb140) (o := .cells #[.int .u64 t135, .int .u64 t136, .int .u64 t137, .int .u64 t138] 33 (0, 0)) F38_ hb); have n8_ := Aside0.mk (below_step (F36_) hb); clear HO_9; clear BK101; clear BK102; clear BK103; clear BK117; clear BK123; clear BK134; clear BK140; clear HB; have HO_9 := n0_; have BK101 := n1_; have BK102 := n2_; have BK103 := n3_; have BK117 := n4_; have BK123 := n5_; have BK134 := n6_; have BK140 := n7_; have HB := n8_; clear n0_ n1_ n2_ n3_ n4_ n5_ n6_ n7_ n8_; (try clear hb); (try clear hb2); (try clear hk); (try clear hi)))
  go_ret
  exact ⟨F39_, F36_⟩) : p := h
theorem L7_ {p : Prop} (h : p := by
  intro hCont
  refine two_ (i := 6) (j := 10) (Ni := some 94) (Nj := some 15) #[true, true, true, true, true, true, true, false, false, false, false, false, false] #[true, true, true, true, true, true, false, false, false, false, true, false, false] rfl rfl rfl rfl (two_of HT_.out (by kernel_rfl)) (by decide) (by decide) (fun K hK => ?_) (fun K hK => ?_)
  ·skip
   refine goes_ Try.func72 (by kernel_rfl) rfl #[.agg #[.slice A0_0 l0_0.length c0_0, .slice A0_1 l0_1.length c0_1, .slice A0_2 l0_2.length c0_2], .agg #[.slice A1_0 l1_0.length c1_0, .int .i64 a1_1, .int .i64 a1_2], .int .i64 (rd t106 x14_2)] (by rfl) rfl rfl F10_ ?_
   with_reducible refine (room_Rest.calls k2 _ _ l0_0 _ _ l0_1 _ _ l0_2 _ _ l1_0 a1_1 a1_2 (rd t106 x14_2) t129 t130 t131 t132 none _ ?side1 ?side2 ?side3 ?side4 ?side5 ?side6 ?side7 ?side8 A122.out).mono ?_
   (case side1 => exact F11_)
   (case side2 => exact HC0_0.out)
   (case side3 => exact F12_)
   (case side4 => exact HC0_1.out)
   (case side5 => exact F13_)
   (case side6 => exact HC0_2.out)
   (case side7 => exact F14_)
   (case side8 => exact HC1_0.out)
   rintro e w160 ⟨rfl, hb⟩
   have HS6_ := (hb.cell (World.block_lt_of_cell? _ _ (hHeld.2.2.2.2.2.2))).trans (hHeld.2.2.2.2.2.2)
   refine ⟨_, rfl, ?_⟩
   have n0_ := Aside0.mk (Kd.R_below F15_ hb)
   have n1_ := Aside0.mk (blk_below (g := gb101) (o := .cells #[.slice A0_0 l0_0.length c0_0, .slice A0_1 l0_1.length c0_1, .slice A0_2 l0_2.length c0_2] 96 (0, 0)) F1_ hb)
   have n2_ := Aside0.mk (blk_below (g := gb102) (o := .cells #[.slice A1_0 l1_0.length c1_0, .int .i64 a1_1, .int .i64 a1_2] 26 (0, 0)) F2_ hb)
   have n3_ := Aside0.mk (blk_below (g := gb103) (o := .cells #[.int .u64 a2_0, .int .u64 a2_1, .int .u64 a2_2, .int .u64 a2_3] 33 (0, 0)) F3_ hb)
   have n4_ := Aside0.mk (blk_below (g := gb117) (o := .cells #[.int .u64 t112, .int .u64 t113, .int .u64 t114, .int .u64 t115] 33 (0, 0)) F6_ hb)
   have n5_ := Aside0.mk (blk_below (g := gb123) (o := .cells #[.int .u64 t118, .int .u64 t119, .int .u64 t120, .int .u64 t121] 33 (0, 0)) F8_ hb)
   have n6_ := Aside0.mk (below_step F5_ hb)
   clear HO_9
   clear BK101
   clear BK102
   clear BK103
   clear BK117
   clear BK123
   clear HB
   have HO_9 := n0_
   have BK101 := n1_
   have BK102 := n2_
   have BK103 := n3_
   have BK117 := n4_
   have BK123 := n5_
   have HB := n6_
   clear n0_ n1_ n2_ n3_ n4_ n5_ n6_
   (try clear hb)
   (try clear hb2)
   (try clear hk)
   (try clear hi)
   (try simp only [errW_none, errW_some])
   refine hK.out _ _ ⟨(blk_cell BK101.out 0).trans rfl, (blk_cell BK101.out 1).trans rfl, (blk_cell BK101.out 2).trans rfl, (blk_cell BK102.out 0).trans rfl, (blk_cell BK102.out 1).trans rfl, (blk_cell BK102.out 2).trans rfl, HS6_⟩ (fun hHeld => ?_)
   clear hK K
   refine norm_ (a' := ?_) ?_ ?_
   rotate_left
   ·show Act.put _ (some 94) _ = _
    simp only [Act.put, List.setIfInBounds_toArray, List.set_cons_zero, List.set_cons_succ, i64_w, i32_w]
    rfl
   refine pure_ (i := 7) (N := some 87) (v := ?_) (a' := ?_) #[true, true, true, true, true, true, true, true, false, false, false, false, false] rfl rfl (any_of HT_.out (by kernel_rfl)) (fun _ _ _ h => h) (Or.inl ⟨by rfl, ?_⟩) ?_ ?_
   rotate_left
   ·intro w'
    go_simp
    with_reducible rfl
   rotate_left
   ·simp only [Act.put, List.setIfInBounds_toArray, List.set_cons_zero, List.set_cons_succ, i64_w, i32_w]
    rfl
   refine pure_ (i := 8) (N := some 95) (v := ?_) (a' := ?_) #[true, true, true, true, true, true, true, true, true, false, false, false, false] rfl rfl (any_of HT_.out (by kernel_rfl)) (fun _ _ _ h => h) (Or.inl ⟨by rfl, ?_⟩) ?_ ?_
   rotate_left
   ·intro w'
    go_simp
    with_reducible rfl
   rotate_left
   ·simp only [Act.put, List.setIfInBounds_toArray, List.set_cons_zero, List.set_cons_succ, i64_w, i32_w]
    rfl
   refine pure_ (i := 9) (N := some 96) (v := ?_) (a' := ?_) #[true, true, true, true, true, true, true, true, true, true, false, false, false] rfl rfl (any_of HT_.out (by kernel_rfl)) (fun _ _ _ h => h) (Or.inl ⟨by rfl, ?_⟩) ?_ ?_
   rotate_left
   ·intro w'
    go_simp
    with_reducible rfl
   rotate_left
   ·simp only [Act.put, List.setIfInBounds_toArray, List.set_cons_zero, List.set_cons_succ, i64_w, i32_w]
    rfl
   refine one_ (i := 10) (N := some 15) #[true, true, true, true, true, true, true, true, true, true, true, false, false] rfl rfl (one_of HT_.out (by kernel_rfl)) (by decide) (fun K hK => ?_)
   refine box_step ?hg (N := 15) ?hd (cs := #[.int .u64 0, .int .u64 0, .int .u64 0, .int .u64 0]) (t := 33) ?hr ?_; (case hd => rfl); (case hg => rfl); (case hr => first | (go_simp; done) | (go_simp; rfl))
   intro gb134 hg w161 hbox hb
   have HS6_ := (hb.cell (World.block_lt_of_cell? _ _ (hHeld.2.2.2.2.2.2))).trans (hHeld.2.2.2.2.2.2)
   have n0_ := Aside0.mk (Kd.R_below F15_ hb)
   have n1_ := Aside0.mk (blk_below (g := gb101) (o := .cells #[.slice A0_0 l0_0.length c0_0, .slice A0_1 l0_1.length c0_1, .slice A0_2 l0_2.length c0_2] 96 (0, 0)) F1_ hb)
   have n2_ := Aside0.mk (blk_below (g := gb102) (o := .cells #[.slice A1_0 l1_0.length c1_0, .int .i64 a1_1, .int .i64 a1_2] 26 (0, 0)) F2_ hb)
   have n3_ := Aside0.mk (blk_below (g := gb103) (o := .cells #[.int .u64 a2_0, .int .u64 a2_1, .int .u64 a2_2, .int .u64 a2_3] 33 (0, 0)) F3_ hb)
   have n4_ := Aside0.mk (blk_below (g := gb117) (o := .cells #[.int .u64 t112, .int .u64 t113, .int .u64 t114, .int .u64 t115] 33 (0, 0)) F6_ hb)
   have n5_ := Aside0.mk (blk_below (g := gb123) (o := .cells #[.int .u64 t118, .int .u64 t119, .int .u64 t120, .int .u64 t121] 33 (0, 0)) F8_ hb)
   have n6_ := Aside0.mk (below_step F5_ hb)
   have n7_ := Aside0.mk (hbox)
   have n8_ := Aside0.mk ((by rw [hg]; exact (below_size F5_) : w.heap.size ≤ gb134))
   have n9_ := Aside0.mk ((by rw [hg]; exact (below_size F5_) : w.heap.size ≤ gb134))
   have n10_ := Aside0.mk ((by rw [hg]; exact Nat.ne_of_lt (blk_lt (g := gb101) (o := .cells #[.slice A0_0 l0_0.length c0_0, .slice A0_1 l0_1.length c0_1, .slice A0_2 l0_2.length c0_2] 96 (0, 0)) F1_) : gb101 ≠ gb134))
   have n11_ := Aside0.mk ((by rw [hg]; exact Nat.ne_of_gt (blk_lt (g := gb101) (o := .cells #[.slice A0_0 l0_0.length c0_0, .slice A0_1 l0_1.length c0_1, .slice A0_2 l0_2.length c0_2] 96 (0, 0)) F1_) : gb134 ≠ gb101))
   have n12_ := Aside0.mk ((by rw [hg]; exact Nat.ne_of_lt (blk_lt (g := gb102) (o := .cells #[.slice A1_0 l1_0.length c1_0, .int .i64 a1_1, .int .i64 a1_2] 26 (0, 0)) F2_) : gb102 ≠ gb134))
   have n13_ := Aside0.mk ((by rw [hg]; exact Nat.ne_of_gt (blk_lt (g := gb102) (o := .cells #[.slice A1_0 l1_0.length c1_0, .int .i64 a1_1, .int .i64 a1_2] 26 (0, 0)) F2_) : gb134 ≠ gb102))
   have n14_ := Aside0.mk ((by rw [hg]; exact Nat.ne_of_lt (blk_lt (g := gb103) (o := .cells #[.int .u64 a2_0, .int .u64 a2_1, .int .u64 a2_2, .int .u64 a2_3] 33 (0, 0)) F3_) : gb103 ≠ gb134))
   have n15_ := Aside0.mk ((by rw [hg]; exact Nat.ne_of_gt (blk_lt (g := gb103) (o := .cells #[.int .u64 a2_0, .int .u64 a2_1, .int .u64 a2_2, .int .u64 a2_3] 33 (0, 0)) F3_) : gb134 ≠ gb103))
   have n16_ := Aside0.mk ((by rw [hg]; exact Nat.ne_of_lt (blk_lt (g := gb117) (o := .cells #[.int .u64 t112, .int .u64 t113, .int .u64 t114, .int .u64 t115] 33 (0, 0)) F6_) : gb117 ≠ gb134))
   have n17_ := Aside0.mk ((by rw [hg]; exact Nat.ne_of_gt (blk_lt (g := gb117) (o := .cells #[.int .u64 t112, .int .u64 t113, .int .u64 t114, .int .u64 t115] 33 (0, 0)) F6_) : gb134 ≠ gb117))
   have n18_ := Aside0.mk ((by rw [hg]; exact Nat.ne_of_lt (blk_lt (g := gb123) (o := .cells #[.int .u64 t118, .int .u64 t119, .int .u64 t120, .int .u64 t121] 33 (0, 0)) F8_) : gb123 ≠ gb134))
   have n19_ := Aside0.mk ((by rw [hg]; exact Nat.ne_of_gt (blk_lt (g := gb123) (o := .cells #[.int .u64 t118, .int .u64 t119, .int .u64 t120, .int .u64 t121] 33 (0, 0)) F8_) : gb134 ≠ gb123))
   clear HO_9
   clear BK101
   clear BK102
   clear BK103
   clear BK117
   clear BK123
   clear HB
   have HO_9 := n0_
   have BK101 := n1_
   have BK102 := n2_
   have BK103 := n3_
   have BK117 := n4_
   have BK123 := n5_
   have HB := n6_
   have BK134 := n7_
   have GW134 := n8_
   have GE134 := n9_
   have NB101_134 := n10_
   have NB134_101 := n11_
   have NB102_134 := n12_
   have NB134_102 := n13_
   have NB103_134 := n14_
   have NB134_103 := n15_
   have NB117_134 := n16_
   have NB134_117 := n17_
   have NB123_134 := n18_
   have NB134_123 := n19_
   clear n0_ n1_ n2_ n3_ n4_ n5_ n6_ n7_ n8_ n9_ n10_ n11_ n12_ n13_ n14_ n15_ n16_ n17_ n18_ n19_
   clear hb hbox hg
   refine hK.out _ _ ⟨(blk_cell BK101.out 0).trans rfl, (blk_cell BK101.out 1).trans rfl, (blk_cell BK101.out 2).trans rfl, (blk_cell BK102.out 0).trans rfl, (blk_cell BK102.out 1).trans rfl, (blk_cell BK102.out 2).trans rfl, HS6_⟩ (fun hHeld => ?_)
   clear hK K
   refine norm_ (a' := ?_) ?_ ?_
   rotate_left
   ·show Act.put _ (some 15) _ = _
    simp only [Act.put, List.setIfInBounds_toArray, List.set_cons_zero, List.set_cons_succ, i64_w, i32_w]
    rfl
   exact norm_ F35_ (hCont (gb134) _ ⟨hHeld, F15_, F1_, F2_, F3_, F6_, F8_, F17_, GW134.out, GE134.out, NB101_134.out, NB134_101.out, NB102_134.out, NB134_102.out, NB103_134.out, NB134_103.out, NB117_134.out, NB134_117.out, NB123_134.out, NB134_123.out, F4_⟩)
  ·skip
   refine box_step ?hg (N := 15) ?hd (cs := #[.int .u64 0, .int .u64 0, .int .u64 0, .int .u64 0]) (t := 33) ?hr ?_; (case hd => rfl); (case hg => rfl); (case hr => first | (go_simp; done) | (go_simp; rfl))
   intro gb134 hg w160 hbox hb
   have HS6_ := (hb.cell (World.block_lt_of_cell? _ _ (hHeld.2.2.2.2.2.2))).trans (hHeld.2.2.2.2.2.2)
   have n0_ := Aside0.mk (Kd.R_below F15_ hb)
   have n1_ := Aside0.mk (blk_below (g := gb101) (o := .cells #[.slice A0_0 l0_0.length c0_0, .slice A0_1 l0_1.length c0_1, .slice A0_2 l0_2.length c0_2] 96 (0, 0)) F1_ hb)
   have n2_ := Aside0.mk (blk_below (g := gb102) (o := .cells #[.slice A1_0 l1_0.length c1_0, .int .i64 a1_1, .int .i64 a1_2] 26 (0, 0)) F2_ hb)
   have n3_ := Aside0.mk (blk_below (g := gb103) (o := .cells #[.int .u64 a2_0, .int .u64 a2_1, .int .u64 a2_2, .int .u64 a2_3] 33 (0, 0)) F3_ hb)
   have n4_ := Aside0.mk (blk_below (g := gb117) (o := .cells #[.int .u64 t112, .int .u64 t113, .int .u64 t114, .int .u64 t115] 33 (0, 0)) F6_ hb)
   have n5_ := Aside0.mk (blk_below (g := gb123) (o := .cells #[.int .u64 t118, .int .u64 t119, .int .u64 t120, .int .u64 t121] 33 (0, 0)) F8_ hb)
   have n6_ := Aside0.mk (below_step F5_ hb)
   have n7_ := Aside0.mk (hbox)
   have n8_ := Aside0.mk ((by rw [hg]; exact (below_size F5_) : w.heap.size ≤ gb134))
   have n9_ := Aside0.mk ((by rw [hg]; exact (below_size F5_) : w.heap.size ≤ gb134))
   have n10_ := Aside0.mk ((by rw [hg]; exact Nat.ne_of_lt (blk_lt (g := gb101) (o := .cells #[.slice A0_0 l0_0.length c0_0, .slice A0_1 l0_1.length c0_1, .slice A0_2 l0_2.length c0_2] 96 (0, 0)) F1_) : gb101 ≠ gb134))
   have n11_ := Aside0.mk ((by rw [hg]; exact Nat.ne_of_gt (blk_lt (g := gb101) (o := .cells #[.slice A0_0 l0_0.length c0_0, .slice A0_1 l0_1.length c0_1, .slice A0_2 l0_2.length c0_2] 96 (0, 0)) F1_) : gb134 ≠ gb101))
   have n12_ := Aside0.mk ((by rw [hg]; exact Nat.ne_of_lt (blk_lt (g := gb102) (o := .cells #[.slice A1_0 l1_0.length c1_0, .int .i64 a1_1, .int .i64 a1_2] 26 (0, 0)) F2_) : gb102 ≠ gb134))
   have n13_ := Aside0.mk ((by rw [hg]; exact Nat.ne_of_gt (blk_lt (g := gb102) (o := .cells #[.slice A1_0 l1_0.length c1_0, .int .i64 a1_1, .int .i64 a1_2] 26 (0, 0)) F2_) : gb134 ≠ gb102))
   have n14_ := Aside0.mk ((by rw [hg]; exact Nat.ne_of_lt (blk_lt (g := gb103) (o := .cells #[.int .u64 a2_0, .int .u64 a2_1, .int .u64 a2_2, .int .u64 a2_3] 33 (0, 0)) F3_) : gb103 ≠ gb134))
   have n15_ := Aside0.mk ((by rw [hg]; exact Nat.ne_of_gt (blk_lt (g := gb103) (o := .cells #[.int .u64 a2_0, .int .u64 a2_1, .int .u64 a2_2, .int .u64 a2_3] 33 (0, 0)) F3_) : gb134 ≠ gb103))
   have n16_ := Aside0.mk ((by rw [hg]; exact Nat.ne_of_lt (blk_lt (g := gb117) (o := .cells #[.int .u64 t112, .int .u64 t113, .int .u64 t114, .int .u64 t115] 33 (0, 0)) F6_) : gb117 ≠ gb134))
   have n17_ := Aside0.mk ((by rw [hg]; exact Nat.ne_of_gt (blk_lt (g := gb117) (o := .cells #[.int .u64 t112, .int .u64 t113, .int .u64 t114, .int .u64 t115] 33 (0, 0)) F6_) : gb134 ≠ gb117))
   have n18_ := Aside0.mk ((by rw [hg]; exact Nat.ne_of_lt (blk_lt (g := gb123) (o := .cells #[.int .u64 t118, .int .u64 t119, .int .u64 t120, .int .u64 t121] 33 (0, 0)) F8_) : gb123 ≠ gb134))
   have n19_ := Aside0.mk ((by rw [hg]; exact Nat.ne_of_gt (blk_lt (g := gb123) (o := .cells #[.int .u64 t118, .int .u64 t119, .int .u64 t120, .int .u64 t121] 33 (0, 0)) F8_) : gb134 ≠ gb123))
   clear HO_9
   clear BK101
   clear BK102
   clear BK103
   clear BK117
   clear BK123
   clear HB
   have HO_9 := n0_
   have BK101 := n1_
   have BK102 := n2_
   have BK103 := n3_
   have BK117 := n4_
   have BK123 := n5_
   have HB := n6_
   have BK134 := n7_
   have GW134 := n8_
   have GE134 := n9_
   have NB101_134 := n10_
   have NB134_101 := n11_
   have NB102_134 := n12_
   have NB134_102 := n13_
   have NB103_134 := n14_
   have NB134_103 := n15_
   have NB117_134 := n16_
   have NB134_117 := n17_
   have NB123_134 := n18_
   have NB134_123 := n19_
   clear n0_ n1_ n2_ n3_ n4_ n5_ n6_ n7_ n8_ n9_ n10_ n11_ n12_ n13_ n14_ n15_ n16_ n17_ n18_ n19_
   clear hb hbox hg
   refine hK.out _ _ ⟨(blk_cell BK101.out 0).trans rfl, (blk_cell BK101.out 1).trans rfl, (blk_cell BK101.out 2).trans rfl, (blk_cell BK102.out 0).trans rfl, (blk_cell BK102.out 1).trans rfl, (blk_cell BK102.out 2).trans rfl, HS6_⟩ (fun hHeld => ?_)
   clear hK K
   refine norm_ (a' := ?_) ?_ ?_
   rotate_left
   ·show Act.put _ (some 15) _ = _
    simp only [Act.put, List.setIfInBounds_toArray, List.set_cons_zero, List.set_cons_succ, i64_w, i32_w]
    rfl
   refine one_ (i := 6) (N := some 94) #[true, true, true, true, true, true, true, false, false, false, true, false, false] rfl rfl (one_of HT_.out (by kernel_rfl)) (by decide) (fun K hK => ?_)
   refine goes_ Try.func72 (by kernel_rfl) rfl #[.agg #[.slice A0_0 l0_0.length c0_0, .slice A0_1 l0_1.length c0_1, .slice A0_2 l0_2.length c0_2], .agg #[.slice A1_0 l1_0.length c1_0, .int .i64 a1_1, .int .i64 a1_2], .int .i64 (rd t106 x14_2)] (by rfl) rfl rfl F10_ ?_
   with_reducible refine (room_Rest.calls k2 _ _ l0_0 _ _ l0_1 _ _ l0_2 _ _ l1_0 a1_1 a1_2 (rd t106 x14_2) t129 t130 t131 t132 none _ ?side1 ?side2 ?side3 ?side4 ?side5 ?side6 ?side7 ?side8 A122.out).mono ?_
   (case side1 => exact F11_)
   (case side2 => exact HC0_0.out)
   (case side3 => exact F12_)
   (case side4 => exact HC0_1.out)
   (case side5 => exact F13_)
   (case side6 => exact HC0_2.out)
   (case side7 => exact F14_)
   (case side8 => exact HC1_0.out)
   rintro e w161 ⟨rfl, hb⟩
   have HS6_ := (hb.cell (World.block_lt_of_cell? _ _ (hHeld.2.2.2.2.2.2))).trans (hHeld.2.2.2.2.2.2)
   refine ⟨_, rfl, ?_⟩
   have n0_ := Aside0.mk (Kd.R_below F15_ hb)
   have n1_ := Aside0.mk (blk_below (g := gb101) (o := .cells #[.slice A0_0 l0_0.length c0_0, .slice A0_1 l0_1.length c0_1, .slice A0_2 l0_2.length c0_2] 96 (0, 0)) F1_ hb)
   have n2_ := Aside0.mk (blk_below (g := gb102) (o := .cells #[.slice A1_0 l1_0.length c1_0, .int .i64 a1_1, .int .i64 a1_2] 26 (0, 0)) F2_ hb)
   have n3_ := Aside0.mk (blk_below (g := gb103) (o := .cells #[.int .u64 a2_0, .int .u64 a2_1, .int .u64 a2_2, .int .u64 a2_3] 33 (0, 0)) F3_ hb)
   have n4_ := Aside0.mk (blk_below (g := gb117) (o := .cells #[.int .u64 t112, .int .u64 t113, .int .u64 t114, .int .u64 t115] 33 (0, 0)) F6_ hb)
   have n5_ := Aside0.mk (blk_below (g := gb123) (o := .cells #[.int .u64 t118, .int .u64 t119, .int .u64 t120, .int .u64 t121] 33 (0, 0)) F8_ hb)
   have n6_ := Aside0.mk (blk_below (g := gb134) (o := .cells #[.int .u64 0, .int .u64 0, .int .u64 0, .int .u64 0] 33 (0, 0)) F17_ hb)
   have n7_ := Aside0.mk (below_step F4_ hb)
   clear HO_9
   clear BK101
   clear BK102
   clear BK103
   clear BK117
   clear BK123
   clear BK134
   clear HB
   have HO_9 := n0_
   have BK101 := n1_
   have BK102 := n2_
   have BK103 := n3_
   have BK117 := n4_
   have BK123 := n5_
   have BK134 := n6_
   have HB := n7_
   clear n0_ n1_ n2_ n3_ n4_ n5_ n6_ n7_
   (try clear hb)
   (try clear hb2)
   (try clear hk)
   (try clear hi)
   (try simp only [errW_none, errW_some])
   refine hK.out _ _ ⟨(blk_cell BK101.out 0).trans rfl, (blk_cell BK101.out 1).trans rfl, (blk_cell BK101.out 2).trans rfl, (blk_cell BK102.out 0).trans rfl, (blk_cell BK102.out 1).trans rfl, (blk_cell BK102.out 2).trans rfl, HS6_⟩ (fun hHeld => ?_)
   clear hK K
   refine norm_ (a' := ?_) ?_ ?_
   rotate_left
   ·show Act.put _ (some 94) _ = _
    simp only [Act.put, List.setIfInBounds_toArray, List.set_cons_zero, List.set_cons_succ, i64_w, i32_w]
    rfl
   refine pure_ (i := 7) (N := some 87) (v := ?_) (a' := ?_) #[true, true, true, true, true, true, true, true, false, false, true, false, false] rfl rfl (any_of HT_.out (by kernel_rfl)) (fun _ _ _ h => h) (Or.inl ⟨by rfl, ?_⟩) ?_ ?_
   rotate_left
   ·intro w'
    go_simp
    with_reducible rfl
   rotate_left
   ·simp only [Act.put, List.setIfInBounds_toArray, List.set_cons_zero, List.set_cons_succ, i64_w, i32_w]
    rfl
   refine pure_ (i := 8) (N := some 95) (v := ?_) (a' := ?_) #[true, true, true, true, true, true, true, true, true, false, true, false, false] rfl rfl (any_of HT_.out (by kernel_rfl)) (fun _ _ _ h => h) (Or.inl ⟨by rfl, ?_⟩) ?_ ?_
   rotate_left
   ·intro w'
    go_simp
    with_reducible rfl
   rotate_left
   ·simp only [Act.put, List.setIfInBounds_toArray, List.set_cons_zero, List.set_cons_succ, i64_w, i32_w]
    rfl
   refine pure_ (i := 9) (N := some 96) (v := ?_) (a' := ?_) #[true, true, true, true, true, true, true, true, true, true, true, false, false] rfl rfl (any_of HT_.out (by kernel_rfl)) (fun _ _ _ h => h) (Or.inl ⟨by rfl, ?_⟩) ?_ ?_
   rotate_left
   ·intro w'
    go_simp
    with_reducible rfl
   rotate_left
   ·simp only [Act.put, List.setIfInBounds_toArray, List.set_cons_zero, List.set_cons_succ, i64_w, i32_w]
    rfl
   exact norm_ F35_ (hCont (gb134) _ ⟨hHeld, F15_, F1_, F2_, F3_, F6_, F8_, F17_, GW134.out, GE134.out, NB101_134.out, NB134_101.out, NB102_134.out, NB134_102.out, NB103_134.out, NB134_103.out, NB117_134.out, NB134_117.out, NB123_134.out, NB134_123.out, F4_⟩)) : p := h
theorem L8_ {p : Prop} (h : p := by
  have H1 : ((fit_Tighter.f t135 t136 t137 t138 t118 t119 t120 t121).bind fun t143 => (if t143 = true then (some false) else (dunnagelaw14_FitTight.l0 k2 t104 t106 (wrap64 (x14_2 + 1)) l0_0 l0_1 l0_2 l1_0 a1_1 a1_2 a2_0 a2_1 a2_2 a2_3 t118 t119 t120 t121))) = some r := by rw [if_pos (show (none : Option Int).isNone = true by rfl)] at H; exact H
  clear H
  have H := H1
  clear H1
  try simp only [errW_none, errW_some]
  replace H := Option.bind_eq_some_iff.mp H
  obtain ⟨t143, A1240, H⟩ := H
  replace H : (if t143 = true then (some false) else (dunnagelaw14_FitTight.l0 k2 t104 t106 (wrap64 (x14_2 + 1)) l0_0 l0_1 l0_2 l1_0 a1_1 a1_2 a2_0 a2_1 a2_2 a2_3 t118 t119 t120 t121)) = some r := H
  have A124 := Aside0.mk A1240
  clear A1240
  by_cases c125 : t143 = true
  ·exact L6_
  ·replace c125 := Bool.eq_false_iff.mpr c125
   subst c125
   have H1 : (dunnagelaw14_FitTight.l0 k2 t104 t106 (wrap64 (x14_2 + 1)) l0_0 l0_1 l0_2 l1_0 a1_1 a1_2 a2_0 a2_1 a2_2 a2_3 t118 t119 t120 t121) = some r := by rw [if_neg (show ¬ (false = true) by decide)] at H; exact H
   clear H
   have H := H1
   clear H1
   have H' := Aside0.mk H
   clear H
   try go_wp2
   have n0_ := Aside0.mk (Kd.R_drew HO_9.out)
   have n1_ := Aside0.mk (blk_drew BK101.out)
   have n2_ := Aside0.mk (blk_drew BK102.out)
   have n3_ := Aside0.mk (blk_drew BK103.out)
   have n4_ := Aside0.mk (blk_drew BK117.out)
   have n5_ := Aside0.mk (blk_drew BK123.out)
   have n6_ := Aside0.mk (below_drew1 HB.out)
   clear HO_9
   clear BK101
   clear BK102
   clear BK103
   clear BK117
   clear BK123
   clear HB
   have HO_9 := n0_
   have BK101 := n1_
   have BK102 := n2_
   have BK103 := n3_
   have BK117 := n4_
   have BK123 := n5_
   have HB := n6_
   clear n0_ n1_ n2_ n3_ n4_ n5_ n6_
   have p128 : 0 ≤ (x14_2 : Int) := of_decide_eq_true F53_
   have q128 : x14_2 < (t106.length : Int) := of_decide_eq_true F53_
   obtain ⟨ad128, e128, hx128_0⟩ := Kd.at_int (Kd.R_reads' HO_9.out).2.2 x14_2 p128 q128
   cases e128
   replace p128 := eq_true p128
   replace q128 := eq_true q128
   refine start_ (n := 13) (S := fun w' => w'.cell? ⟨gb101, 0, none⟩ = some (.slice A0_0 l0_0.length c0_0) ∧ w'.cell? ⟨gb101, 1, none⟩ = some (.slice A0_1 l0_1.length c0_1) ∧ w'.cell? ⟨gb101, 2, none⟩ = some (.slice A0_2 l0_2.length c0_2) ∧ w'.cell? ⟨gb102, 0, none⟩ = some (.slice A1_0 l1_0.length c1_0) ∧ w'.cell? ⟨gb102, 1, none⟩ = some (.int .i64 a1_1) ∧ w'.cell? ⟨gb102, 2, none⟩ = some (.int .i64 a1_2) ∧ w'.cell? (ad128.add (x14_2).toNat) = some (.int .i64 (rd t106 x14_2))) (ds := []) #[false, false, false, false, false, false, false, false, false, false, false, false, false] (by kernel_rfl) rfl rfl ⟨(blk_cell BK101.out 0).trans rfl, (blk_cell BK101.out 1).trans rfl, (blk_cell BK101.out 2).trans rfl, (blk_cell BK102.out 0).trans rfl, (blk_cell BK102.out 1).trans rfl, (blk_cell BK102.out 2).trans rfl, hx128_0⟩ (fun hHeld => ?_); refine with_tabW dunnagelaw14_FitTight.tab15 dunnagelaw14_FitTight.bits15 (fun HT_ HW_ => ?_)
   generalize wr.drew = w159 at HO_9 BK101 BK102 BK103 BK117 BK123 HB hx128_0 hHeld ⊢
   refine pure_ (i := 2) (N := some 90) (v := ?_) (a' := ?_) #[false, false, true, false, false, false, false, false, false, false, false, false, false] rfl rfl (any_of HT_.out (by kernel_rfl)) (fun _ _ _ h => h) (Or.inl ⟨by rfl, ?_⟩) ?_ ?_
   rotate_left
   ·intro w'
    go_simp
    with_reducible rfl
   rotate_left
   ·simp only [Act.put, List.setIfInBounds_toArray, List.set_cons_zero, List.set_cons_succ, i64_w, i32_w]
    rfl
   refine pure_ (i := 3) (N := some 91) (v := ?_) (a' := ?_) #[false, false, true, true, false, false, false, false, false, false, false, false, false] rfl rfl (any_of HT_.out (by kernel_rfl)) (fun _ _ _ h => h) (Or.inl ⟨by rfl, ?_⟩) ?_ ?_
   rotate_left
   ·intro w'
    go_simp
    with_reducible rfl
   rotate_left
   ·simp only [Act.put, List.setIfInBounds_toArray, List.set_cons_zero, List.set_cons_succ, i64_w, i32_w]
    rfl
   refine pure_ (i := 4) (N := some 92) (v := ?_) (a' := ?_) #[false, false, true, true, true, false, false, false, false, false, false, false, false] rfl rfl (any_of HT_.out (by kernel_rfl)) (fun _ _ _ h => h) (Or.inl ⟨by rfl, ?_⟩) ?_ ?_
   rotate_left
   ·intro w'
    go_simp
    with_reducible rfl
   rotate_left
   ·simp only [Act.put, List.setIfInBounds_toArray, List.set_cons_zero, List.set_cons_succ, i64_w, i32_w]
    rfl
   refine take_ (i := 0) (N := some 88) (v := ?_) (a' := ?_) #[true, false, true, true, true, false, false, false, false, false, false, false, false] rfl rfl (take_ofW HT_.out HW_.out (by kernel_rfl)) (fun _ _ _ h => h) (Or.inl ⟨by rfl, ?_⟩) hHeld ?_ ?_
   rotate_left
   ·rintro w' ⟨s0, s1, s2, s3, s4, s5, s6⟩
    go_simp
    with_reducible rfl
   rotate_left
   ·simp only [Act.put, List.setIfInBounds_toArray, List.set_cons_zero, List.set_cons_succ, i64_w, i32_w]
    rfl
   refine take_ (i := 1) (N := some 89) (v := ?_) (a' := ?_) #[true, true, true, true, true, false, false, false, false, false, false, false, false] rfl rfl (take_ofW HT_.out HW_.out (by kernel_rfl)) (fun _ _ _ h => h) (Or.inl ⟨by rfl, ?_⟩) hHeld ?_ ?_
   rotate_left
   ·rintro w' ⟨s0, s1, s2, s3, s4, s5, s6⟩
    go_simp
    with_reducible rfl
   rotate_left
   ·simp only [Act.put, List.setIfInBounds_toArray, List.set_cons_zero, List.set_cons_succ, i64_w, i32_w]
    rfl
   refine take_ (i := 5) (N := some 93) (v := ?_) (a' := ?_) #[true, true, true, true, true, true, false, false, false, false, false, false, false] rfl rfl (take_ofW HT_.out HW_.out (by kernel_rfl)) (fun _ _ _ h => h) (Or.inl ⟨by rfl, ?_⟩) hHeld ?_ ?_
   rotate_left
   ·rintro w' ⟨s0, s1, s2, s3, s4, s5, s6⟩
    go_simp
    with_reducible rfl
   rotate_left
   ·simp only [Act.put, List.setIfInBounds_toArray, List.set_cons_zero, List.set_cons_succ, i64_w, i32_w]
    rfl
   refine join_ (σ := Nat) 2 #[true, true, true, true, true, true, true, true, true, true, true, false, false] (fun s_ => [(94, .tuple #[.agg #[.int .u64 t129, .int .u64 t130, .int .u64 t131, .int .u64 t132], errW none]), (15, .pointer (some ⟨s_, 0, none⟩)), (87, .tuple #[.agg #[.int .u64 t129, .int .u64 t130, .int .u64 t131, .int .u64 t132], errW none]), (95, .agg #[.int .u64 t129, .int .u64 t130, .int .u64 t131, .int .u64 t132]), (96, errW none)]) (fun s_ w' => (w'.cell? ⟨gb101, 0, none⟩ = some (.slice A0_0 l0_0.length c0_0) ∧ w'.cell? ⟨gb101, 1, none⟩ = some (.slice A0_1 l0_1.length c0_1) ∧ w'.cell? ⟨gb101, 2, none⟩ = some (.slice A0_2 l0_2.length c0_2) ∧ w'.cell? ⟨gb102, 0, none⟩ = some (.slice A1_0 l1_0.length c1_0) ∧ w'.cell? ⟨gb102, 1, none⟩ = some (.int .i64 a1_1) ∧ w'.cell? ⟨gb102, 2, none⟩ = some (.int .i64 a1_2) ∧ w'.cell? (ad128.add (x14_2).toNat) = some (.int .i64 (rd t106 x14_2))) ∧ (Kd.R (Kd.int .i64) 3 w' w.heap.size (fun _ => True) (.slice (some ad128) t106.length co88) t106) ∧ (w'.heap[gb101]? = some (.cells #[.slice A0_0 l0_0.length c0_0, .slice A0_1 l0_1.length c0_1, .slice A0_2 l0_2.length c0_2] 96 (0, 0))) ∧ (w'.heap[gb102]? = some (.cells #[.slice A1_0 l1_0.length c1_0, .int .i64 a1_1, .int .i64 a1_2] 26 (0, 0))) ∧ (w'.heap[gb103]? = some (.cells #[.int .u64 a2_0, .int .u64 a2_1, .int .u64 a2_2, .int .u64 a2_3] 33 (0, 0))) ∧ (w'.heap[gb117]? = some (.cells #[.int .u64 t112, .int .u64 t113, .int .u64 t114, .int .u64 t115] 33 (0, 0))) ∧ (w'.heap[gb123]? = some (.cells #[.int .u64 t118, .int .u64 t119, .int .u64 t120, .int .u64 t121] 33 (0, 0))) ∧ (w'.heap[s_]? = some (.cells #[.int .u64 0, .int .u64 0, .int .u64 0, .int .u64 0] 33 (0, 0))) ∧ (w.heap.size ≤ s_) ∧ (w.heap.size ≤ s_) ∧ (gb101 ≠ s_) ∧ (s_ ≠ gb101) ∧ (gb102 ≠ s_) ∧ (s_ ≠ gb102) ∧ (gb103 ≠ s_) ∧ (s_ ≠ gb103) ∧ (gb117 ≠ s_) ∧ (s_ ≠ gb117) ∧ (gb123 ≠ s_) ∧ (s_ ≠ gb123) ∧ (Below w.heap.size w w')) ?_ ?_
   rotate_left
   ·exact L7_
   rintro gb134 w162 ⟨hS_, h0_, h1_, h2_, h3_, h4_, h5_, h6_, h7_, h8_, h9_, h10_, h11_, h12_, h13_, h14_, h15_, h16_, h17_, h18_, h19_⟩
   have n0_ : Aside0 (Kd.R (Kd.int .i64) 3 w162 w.heap.size (fun _ => True) (.slice (some ad128) t106.length co88) t106) := ⟨h0_⟩
   have n1_ : Aside0 (w162.heap[gb101]? = some (.cells #[.slice A0_0 l0_0.length c0_0, .slice A0_1 l0_1.length c0_1, .slice A0_2 l0_2.length c0_2] 96 (0, 0))) := ⟨h1_⟩
   have n2_ : Aside0 (w162.heap[gb102]? = some (.cells #[.slice A1_0 l1_0.length c1_0, .int .i64 a1_1, .int .i64 a1_2] 26 (0, 0))) := ⟨h2_⟩
   have n3_ : Aside0 (w162.heap[gb103]? = some (.cells #[.int .u64 a2_0, .int .u64 a2_1, .int .u64 a2_2, .int .u64 a2_3] 33 (0, 0))) := ⟨h3_⟩
   have n4_ : Aside0 (w162.heap[gb117]? = some (.cells #[.int .u64 t112, .int .u64 t113, .int .u64 t114, .int .u64 t115] 33 (0, 0))) := ⟨h4_⟩
   have n5_ : Aside0 (w162.heap[gb123]? = some (.cells #[.int .u64 t118, .int .u64 t119, .int .u64 t120, .int .u64 t121] 33 (0, 0))) := ⟨h5_⟩
   have n6_ : Aside0 (w162.heap[gb134]? = some (.cells #[.int .u64 0, .int .u64 0, .int .u64 0, .int .u64 0] 33 (0, 0))) := ⟨h6_⟩
   have n7_ : Aside0 (w.heap.size ≤ gb134) := ⟨h7_⟩
   have n8_ : Aside0 (w.heap.size ≤ gb134) := ⟨h8_⟩
   have n9_ : Aside0 (gb101 ≠ gb134) := ⟨h9_⟩
   have n10_ : Aside0 (gb134 ≠ gb101) := ⟨h10_⟩
   have n11_ : Aside0 (gb102 ≠ gb134) := ⟨h11_⟩
   have n12_ : Aside0 (gb134 ≠ gb102) := ⟨h12_⟩
   have n13_ : Aside0 (gb103 ≠ gb134) := ⟨h13_⟩
   have n14_ : Aside0 (gb134 ≠ gb103) := ⟨h14_⟩
   have n15_ : Aside0 (gb117 ≠ gb134) := ⟨h15_⟩
   have n16_ : Aside0 (gb134 ≠ gb117) := ⟨h16_⟩
   have n17_ : Aside0 (gb123 ≠ gb134) := ⟨h17_⟩
   have n18_ : Aside0 (gb134 ≠ gb123) := ⟨h18_⟩
   have n19_ : Aside0 (Below w.heap.size w w162) := ⟨h19_⟩
   clear HO_9
   clear BK101
   clear BK102
   clear BK103
   clear BK117
   clear BK123
   clear HB
   clear h0_ h1_ h2_ h3_ h4_ h5_ h6_ h7_ h8_ h9_ h10_ h11_ h12_ h13_ h14_ h15_ h16_ h17_ h18_ h19_
   have HO_9 := n0_
   have BK101 := n1_
   have BK102 := n2_
   have BK103 := n3_
   have BK117 := n4_
   have BK123 := n5_
   have BK134 := n6_
   have GW134 := n7_
   have GE134 := n8_
   have NB101_134 := n9_
   have NB134_101 := n10_
   have NB102_134 := n11_
   have NB134_102 := n12_
   have NB103_134 := n13_
   have NB134_103 := n14_
   have NB117_134 := n15_
   have NB134_117 := n16_
   have NB123_134 := n17_
   have NB134_123 := n18_
   have HB := n19_
   clear n0_ n1_ n2_ n3_ n4_ n5_ n6_ n7_ n8_ n9_ n10_ n11_ n12_ n13_ n14_ n15_ n16_ n17_ n18_ n19_
   have hHeld : w162.cell? ⟨gb101, 0, none⟩ = some (.slice A0_0 l0_0.length c0_0) ∧ w162.cell? ⟨gb101, 1, none⟩ = some (.slice A0_1 l0_1.length c0_1) ∧ w162.cell? ⟨gb101, 2, none⟩ = some (.slice A0_2 l0_2.length c0_2) ∧ w162.cell? ⟨gb102, 0, none⟩ = some (.slice A1_0 l1_0.length c1_0) ∧ w162.cell? ⟨gb102, 1, none⟩ = some (.int .i64 a1_1) ∧ w162.cell? ⟨gb102, 2, none⟩ = some (.int .i64 a1_2) ∧ w162.cell? (ad128.add (x14_2).toNat) = some (.int .i64 (rd t106 x14_2)) := hS_
   refine norm_ (a' := ?_) ?_ ?_
   rotate_left
   ·simp only [putAll, Act.put, List.setIfInBounds_toArray, List.set_cons_zero, List.set_cons_succ]
    rfl
   refine one_ (i := 11) (N := none) #[true, true, true, true, true, true, true, true, true, true, true, true, false] rfl rfl (one_of HT_.out (by kernel_rfl)) (by decide) (fun K hK => ?_)
   have hs163 : w162.cell? ⟨gb134, 0, none⟩ = some (.int .u64 0) := (blk_cell BK134.out 0).trans rfl
   have hfs163 := blk_frozen BK134.out 0
   have hns163_0 := NB101_134.out
   have hns163_1 := NB102_134.out
   have hns163_2 := NB103_134.out
   have hns163_3 := NB117_134.out
   have hns163_4 := NB123_134.out
   have hms163_0 := NB134_101.out
   have hms163_1 := NB134_102.out
   have hms163_2 := NB134_103.out
   have hms163_3 := NB134_117.out
   have hms163_4 := NB134_123.out
   have hs164 : w162.cell? ⟨gb134, 1, none⟩ = some (.int .u64 0) := (blk_cell BK134.out 1).trans rfl
   have hfs164 := blk_frozen BK134.out 1
   have hns164_0 := NB101_134.out
   have hns164_1 := NB102_134.out
   have hns164_2 := NB103_134.out
   have hns164_3 := NB117_134.out
   have hns164_4 := NB123_134.out
   have hms164_0 := NB134_101.out
   have hms164_1 := NB134_102.out
   have hms164_2 := NB134_103.out
   have hms164_3 := NB134_117.out
   have hms164_4 := NB134_123.out
   have hs165 : w162.cell? ⟨gb134, 2, none⟩ = some (.int .u64 0) := (blk_cell BK134.out 2).trans rfl
   have hfs165 := blk_frozen BK134.out 2
   have hns165_0 := NB101_134.out
   have hns165_1 := NB102_134.out
   have hns165_2 := NB103_134.out
   have hns165_3 := NB117_134.out
   have hns165_4 := NB123_134.out
   have hms165_0 := NB134_101.out
   have hms165_1 := NB134_102.out
   have hms165_2 := NB134_103.out
   have hms165_3 := NB134_117.out
   have hms165_4 := NB134_123.out
   have hs166 : w162.cell? ⟨gb134, 3, none⟩ = some (.int .u64 0) := (blk_cell BK134.out 3).trans rfl
   have hfs166 := blk_frozen BK134.out 3
   have hns166_0 := NB101_134.out
   have hns166_1 := NB102_134.out
   have hns166_2 := NB103_134.out
   have hns166_3 := NB117_134.out
   have hns166_4 := NB123_134.out
   have hms166_0 := NB134_101.out
   have hms166_1 := NB134_102.out
   have hms166_2 := NB134_103.out
   have hms166_3 := NB134_117.out
   have hms166_4 := NB134_123.out
   refine skip_ (w1 := ?_) (by rfl) rfl ?_ ?_
   rotate_left
   ·go_simp
    rfl
   refine hK.out _ _ ⟨((cell_far (p := ⟨gb134, _, none⟩) NB101_134.out _).trans (((cell_far (p := ⟨gb134, _, none⟩) NB101_134.out _).trans (((cell_far (p := ⟨gb134, _, none⟩) NB101_134.out _).trans (((cell_far (p := ⟨gb134, _, none⟩) NB101_134.out _).trans (hHeld.1)))))))), ((cell_far (p := ⟨gb134, _, none⟩) NB101_134.out _).trans (((cell_far (p := ⟨gb134, _, none⟩) NB101_134.out _).trans (((cell_far (p := ⟨gb134, _, none⟩) NB101_134.out _).trans (((cell_far (p := ⟨gb134, _, none⟩) NB101_134.out _).trans (hHeld.2.1)))))))), ((cell_far (p := ⟨gb134, _, none⟩) NB101_134.out _).trans (((cell_far (p := ⟨gb134, _, none⟩) NB101_134.out _).trans (((cell_far (p := ⟨gb134, _, none⟩) NB101_134.out _).trans (((cell_far (p := ⟨gb134, _, none⟩) NB101_134.out _).trans (hHeld.2.2.1)))))))), ((cell_far (p := ⟨gb134, _, none⟩) NB102_134.out _).trans (((cell_far (p := ⟨gb134, _, none⟩) NB102_134.out _).trans (((cell_far (p := ⟨gb134, _, none⟩) NB102_134.out _).trans (((cell_far (p := ⟨gb134, _, none⟩) NB102_134.out _).trans (hHeld.2.2.2.1)))))))), ((cell_far (p := ⟨gb134, _, none⟩) NB102_134.out _).trans (((cell_far (p := ⟨gb134, _, none⟩) NB102_134.out _).trans (((cell_far (p := ⟨gb134, _, none⟩) NB102_134.out _).trans (((cell_far (p := ⟨gb134, _, none⟩) NB102_134.out _).trans (hHeld.2.2.2.2.1)))))))), ((cell_far (p := ⟨gb134, _, none⟩) NB102_134.out _).trans (((cell_far (p := ⟨gb134, _, none⟩) NB102_134.out _).trans (((cell_far (p := ⟨gb134, _, none⟩) NB102_134.out _).trans (((cell_far (p := ⟨gb134, _, none⟩) NB102_134.out _).trans (hHeld.2.2.2.2.2.1)))))))), ((cell_far (p := ⟨gb134, _, none⟩) F9_ _).trans (((cell_far (p := ⟨gb134, _, none⟩) F9_ _).trans (((cell_far (p := ⟨gb134, _, none⟩) F9_ _).trans (((cell_far (p := ⟨gb134, _, none⟩) F9_ _).trans (hHeld.2.2.2.2.2.2))))))))⟩ (fun hHeld => ?_)
   clear hK K
   refine pure_ (i := 12) (N := some 16) (v := ?_) (a' := ?_) #[true, true, true, true, true, true, true, true, true, true, true, true, true] rfl rfl (any_of HT_.out (by kernel_rfl)) (fun _ _ _ h => h) (Or.inl ⟨by rfl, ?_⟩) ?_ ?_
   rotate_left
   ·intro w'
    go_simp
    with_reducible rfl
   rotate_left
   ·simp only [Act.put, List.setIfInBounds_toArray, List.set_cons_zero, List.set_cons_succ, i64_w, i32_w]
    rfl
   refine done_ (done_of HT_.out (by kernel_rfl)) ?_
   have hnb167 := NB134_101.out
   have hnc167 := NB101_134.out
   have hnb168 := NB134_102.out
   have hnc168 := NB102_134.out
   have hnb169 := NB134_103.out
   have hnc169 := NB103_134.out
   have hnb170 := NB134_117.out
   have hnc170 := NB117_134.out
   have hnb171 := NB134_123.out
   have hnc171 := NB123_134.out
   have hcz172_0 : w162.cell? ⟨gb134, 0, none⟩ = some (.int .u64 0) := (blk_cell BK134.out 0).trans rfl
   have hcz172_1 : w162.cell? ⟨gb134, 1, none⟩ = some (.int .u64 0) := (blk_cell BK134.out 1).trans rfl
   have hcz172_2 : w162.cell? ⟨gb134, 2, none⟩ = some (.int .u64 0) := (blk_cell BK134.out 2).trans rfl
   have hcz172_3 : w162.cell? ⟨gb134, 3, none⟩ = some (.int .u64 0) := (blk_cell BK134.out 3).trans rfl
   have hfz172_0 := blk_frozen BK134.out 0
   have hfz172_1 := blk_frozen BK134.out 1
   have hfz172_2 := blk_frozen BK134.out 2
   have hfz172_3 := blk_frozen BK134.out 3
   have hnb173 := NB103_101.out
   have hnc173 := NB101_103.out
   have hnb174 := NB103_102.out
   have hnc174 := NB102_103.out
   have hnb175 := NB103_117.out
   have hnc175 := NB117_103.out
   have hnb176 := NB103_123.out
   have hnc176 := NB123_103.out
   have hcz177_0 : w162.cell? ⟨gb103, 0, none⟩ = some (.int .u64 a2_0) := (blk_cell BK103.out 0).trans rfl
   have hcz177_1 : w162.cell? ⟨gb103, 1, none⟩ = some (.int .u64 a2_1) := (blk_cell BK103.out 1).trans rfl
   have hcz177_2 : w162.cell? ⟨gb103, 2, none⟩ = some (.int .u64 a2_2) := (blk_cell BK103.out 2).trans rfl
   have hcz177_3 : w162.cell? ⟨gb103, 3, none⟩ = some (.int .u64 a2_3) := (blk_cell BK103.out 3).trans rfl
   have hfz177_0 := blk_frozen BK103.out 0
   have hfz177_1 := blk_frozen BK103.out 1
   have hfz177_2 := blk_frozen BK103.out 2
   have hfz177_3 := blk_frozen BK103.out 3
   try go_wp2_with (first | ((with_reducible refine gate_callee (f := 28) rfl ?_); refine goesL_ (some 100) rfl rfl Try.func28 (by kernel_rfl) rfl #[.agg #[.int .u64 t129, .int .u64 t130, .int .u64 t131, .int .u64 t132], .agg #[.int .u64 a2_0, .int .u64 a2_1, .int .u64 a2_2, .int .u64 a2_3]] rfl F10_ ?_; (with_reducible refine (vec_Sub.calls t129 t130 t131 t132 a2_0 a2_1 a2_2 a2_3 t135 t136 t137 t138 none _ A123.out).mono ?_); rintro e w178 ⟨rfl, hb⟩; refine ⟨_, rfl, ?_⟩; have n0_ := Aside0.mk (Kd.R_below F30_ hb); have n1_ := Aside0.mk (blk_below (g := gb101) (o := .cells #[.slice A0_0 l0_0.length c0_0, .slice A0_1 l0_1.length c0_1, .slice A0_2 l0_2.length c0_2] 96 (0, 0)) F22_ hb); have n2_ := Aside0.mk (blk_below (g := gb102) (o := .cells #[.slice A1_0 l1_0.length c1_0, .int .i64 a1_1, .int .i64 a1_2] 26 (0, 0)) F23_ hb); have n3_ := Aside0.mk (blk_below (g := gb103) (o := .cells #[.int .u64 a2_0, .int .u64 a2_1, .int .u64 a2_2, .int .u64 a2_3] 33 (0, 0)) F24_ hb); have n4_ := Aside0.mk (blk_below (g := gb117) (o := .cells #[.int .u64 t112, .int .u64 t113, .int .u64 t114, .int .u64 t115] 33 (0, 0)) F25_ hb); have n5_ := Aside0.mk (blk_below (g := gb123) (o := .cells #[.int .u64 t118, .int .u64 t119, .int .u64 t120, .int .u64 t121] 33 (0, 0)) F26_ hb); have n6_ := Aside0.mk (blk_below (g := gb134) (o := .cells #[.int .u64 t129, .int .u64 t130, .int .u64 t131, .int .u64 t132] 33 (0, 0)) F18_ hb); have n7_ := Aside0.mk (below_step F4_ hb); clear HO_9; clear BK101; clear BK102; clear BK103; clear BK117; clear BK123; clear BK134; clear HB; have HO_9 := n0_; have BK101 := n1_; have BK102 := n2_; have BK103 := n3_; have BK117 := n4_; have BK123 := n5_; have BK134 := n6_; have HB := n7_; clear n0_ n1_ n2_ n3_ n4_ n5_ n6_ n7_; (try clear hb); (try clear hb2); (try clear hk); (try clear hi); (try simp only [errW_none, errW_some])) | ((with_reducible refine gate_dst (N := 17) rfl ?_); refine box_event ?hg (N := 17) ?hd (cs := #[.int .u64 0, .int .u64 0, .int .u64 0, .int .u64 0]) (t := 33) ?hr ?_; (case hd => rfl); (case hg => rfl); (case hr => first | (go_simp; done) | (go_simp; rfl)); intro gb140 hg w179 hbox hb; have n0_ := Aside0.mk (Kd.R_below F15_ hb); have n1_ := Aside0.mk (blk_below (g := gb101) (o := .cells #[.slice A0_0 l0_0.length c0_0, .slice A0_1 l0_1.length c0_1, .slice A0_2 l0_2.length c0_2] 96 (0, 0)) F1_ hb); have n2_ := Aside0.mk (blk_below (g := gb102) (o := .cells #[.slice A1_0 l1_0.length c1_0, .int .i64 a1_1, .int .i64 a1_2] 26 (0, 0)) F2_ hb); have n3_ := Aside0.mk (blk_below (g := gb103) (o := .cells #[.int .u64 a2_0, .int .u64 a2_1, .int .u64 a2_2, .int .u64 a2_3] 33 (0, 0)) F3_ hb); have n4_ := Aside0.mk (blk_below (g := gb117) (o := .cells #[.int .u64 t112, .int .u64 t113, .int .u64 t114, .int .u64 t115] 33 (0, 0)) F6_ hb); have n5_ := Aside0.mk (blk_below (g := gb123) (o := .cells #[.int .u64 t118, .int .u64 t119, .int .u64 t120, .int .u64 t121] 33 (0, 0)) F8_ hb); have n6_ := Aside0.mk (blk_below (g := gb134) (o := .cells #[.int .u64 t129, .int .u64 t130, .int .u64 t131, .int .u64 t132] 33 (0, 0)) F17_ hb); have n7_ := Aside0.mk (below_step F4_ hb); have n8_ := Aside0.mk (hbox); have n9_ := Aside0.mk ((by rw [hg]; exact (below_size F4_) : w.heap.size ≤ gb140)); have n10_ := Aside0.mk ((by rw [hg]; exact (below_size F4_) : w.heap.size ≤ gb140)); have n11_ := Aside0.mk ((by rw [hg]; exact Nat.ne_of_lt (blk_lt (g := gb101) (o := .cells #[.slice A0_0 l0_0.length c0_0, .slice A0_1 l0_1.length c0_1, .slice A0_2 l0_2.length c0_2] 96 (0, 0)) F1_) : gb101 ≠ gb140)); have n12_ := Aside0.mk ((by rw [hg]; exact Nat.ne_of_gt (blk_lt (g := gb101) (o := .cells #[.slice A0_0 l0_0.length c0_0, .slice A0_1 l0_1.length c0_1, .slice A0_2 l0_2.length c0_2] 96 (0, 0)) F1_) : gb140 ≠ gb101)); have n13_ := Aside0.mk ((by rw [hg]; exact Nat.ne_of_lt (blk_lt (g := gb102) (o := .cells #[.slice A1_0 l1_0.length c1_0, .int .i64 a1_1, .int .i64 a1_2] 26 (0, 0)) F2_) : gb102 ≠ gb140)); have n14_ := Aside0.mk ((by rw [hg]; exact Nat.ne_of_gt (blk_lt (g := gb102) (o := .cells #[.slice A1_0 l1_0.length c1_0, .int .i64 a1_1, .int .i64 a1_2] 26 (0, 0)) F2_) : gb140 ≠ gb102)); have n15_ := Aside0.mk ((by rw [hg]; exact Nat.ne_of_lt (blk_lt (g := gb103) (o := .cells #[.int .u64 a2_0, .int .u64 a2_1, .int .u64 a2_2, .int .u64 a2_3] 33 (0, 0)) F3_) : gb103 ≠ gb140)); have n16_ := Aside0.mk ((by rw [hg]; exact Nat.ne_of_gt (blk_lt (g := gb103) (o := .cells #[.int .u64 a2_0, .int .u64 a2_1, .int .u64 a2_2, .int .u64 a2_3] 33 (0, 0)) F3_) : gb140 ≠ gb103)); have n17_ := Aside0.mk ((by rw [hg]; exact Nat.ne_of_lt (blk_lt (g := gb117) (o := .cells #[.int .u64 t112, .int .u64 t113, .int .u64 t114, .int .u64 t115] 33 (0, 0)) F6_) : gb117 ≠ gb140)); have n18_ := Aside0.mk ((by rw [hg]; exact Nat.ne_of_gt (blk_lt (g := gb117) (o := .cells #[.int .u64 t112, .int .u64 t113, .int .u64 t114, .int .u64 t115] 33 (0, 0)) F6_) : gb140 ≠ gb117)); have n19_ := Aside0.mk ((by rw [hg]; exact Nat.ne_of_lt (blk_lt (g := gb123) (o := .cells #[.int .u64 t118, .int .u64 t119, .int .u64 t120, .int .u64 t121] 33 (0, 0)) F8_) : gb123 ≠ gb140)); have n20_ := Aside0.mk ((by rw [hg]; exact Nat.ne_of_gt (blk_lt (g := gb123) (o := .cells #[.int .u64 t118, .int .u64 t119, .int .u64 t120, .int .u64 t121] 33 (0, 0)) F8_) : gb140 ≠ gb123)); have n21_ := Aside0.mk ((by rw [hg]; exact Nat.ne_of_lt (blk_lt (g := gb134) (o := .cells #[.int .u64 t129, .int .u64 t130, .int .u64 t131, .int .u64 t132] 33 (0, 0)) F17_) : gb134 ≠ gb140)); have n22_ := Aside0.mk ((by rw [hg]; exact Nat.ne_of_gt (blk_lt (g := gb134) (o := .cells #[.int .u64 t129, .int .u64 t130, .int .u64 t131, .int .u64 t132] 33 (0, 0)) F17_) : gb140 ≠ gb134)); clear HO_9; clear BK101; clear BK102; clear BK103; clear BK117; clear BK123; clear BK134; clear HB; have HO_9 := n0_; have BK101 := n1_; have BK102 := n2_; have BK103 := n3_; have BK117 := n4_; have BK123 := n5_; have BK134 := n6_; have HB := n7_; have BK140 := n8_; have GW140 := n9_; have GE140 := n10_; have NB101_140 := n11_; have NB140_101 := n12_; have NB102_140 := n13_; have NB140_102 := n14_; have NB103_140 := n15_; have NB140_103 := n16_; have NB117_140 := n17_; have NB140_117 := n18_; have NB123_140 := n19_; have NB140_123 := n20_; have NB134_140 := n21_; have NB140_134 := n22_; clear n0_ n1_ n2_ n3_ n4_ n5_ n6_ n7_ n8_ n9_ n10_ n11_ n12_ n13_ n14_ n15_ n16_ n17_ n18_ n19_ n20_ n21_ n22_; clear hb hbox hg; have hnb180 := NB140_101.out; have hnc180 := NB101_140.out; have hnb181 := NB140_102.out; have hnc181 := NB102_140.out; have hnb182 := NB140_103.out; have hnc182 := NB103_140.out; have hnb183 := NB140_117.out; have hnc183 := NB117_140.out; have hnb184 := NB140_123.out; have hnc184 := NB123_140.out; have hnb185 := NB140_134.out; have hnc185 := NB134_140.out; have hcz186_0 : w179.cell? ⟨gb140, 0, none⟩ = some (.int .u64 0) := (blk_cell BK140.out 0).trans rfl; have hcz186_1 : w179.cell? ⟨gb140, 1, none⟩ = some (.int .u64 0) := (blk_cell BK140.out 1).trans rfl; have hcz186_2 : w179.cell? ⟨gb140, 2, none⟩ = some (.int .u64 0) := (blk_cell BK140.out 2).trans rfl; have hcz186_3 : w179.cell? ⟨gb140, 3, none⟩ = some (.int .u64 0) := (blk_cell BK140.out 3).trans rfl; have hfz186_0 := blk_frozen BK140.out 0; have hfz186_1 := blk_frozen BK140.out 1; have hfz186_2 := blk_frozen BK140.out 2; have hfz186_3 := blk_frozen BK140.out 3; have hnb187 := NB123_101.out; have hnc187 := NB101_123.out; have hnb188 := NB123_102.out; have hnc188 := NB102_123.out; have hnb189 := NB123_117.out; have hnc189 := NB117_123.out; have hcz190_0 : w179.cell? ⟨gb123, 0, none⟩ = some (.int .u64 t118) := (blk_cell BK123.out 0).trans rfl; have hcz190_1 : w179.cell? ⟨gb123, 1, none⟩ = some (.int .u64 t119) := (blk_cell BK123.out 1).trans rfl; have hcz190_2 : w179.cell? ⟨gb123, 2, none⟩ = some (.int .u64 t120) := (blk_cell BK123.out 2).trans rfl; have hcz190_3 : w179.cell? ⟨gb123, 3, none⟩ = some (.int .u64 t121) := (blk_cell BK123.out 3).trans rfl; have hfz190_0 := blk_frozen BK123.out 0; have hfz190_1 := blk_frozen BK123.out 1; have hfz190_2 := blk_frozen BK123.out 2; have hfz190_3 := blk_frozen BK123.out 3) | (go_at_call 64; (with_reducible refine (fit_Tighter.calls t135 t136 t137 t138 t118 t119 t120 t121 false _ A124.out).mono ?_); rintro e w191 ⟨rfl, hb⟩; have n0_ := Aside0.mk (Kd.R_below F52_ hb); have n1_ := Aside0.mk (blk_below (g := gb101) (o := .cells #[.slice A0_0 l0_0.length c0_0, .slice A0_1 l0_1.length c0_1, .slice A0_2 l0_2.length c0_2] 96 (0, 0)) F41_ hb); have n2_ := Aside0.mk (blk_below (g := gb102) (o := .cells #[.slice A1_0 l1_0.length c1_0, .int .i64 a1_1, .int .i64 a1_2] 26 (0, 0)) F42_ hb); have n3_ := Aside0.mk (blk_below (g := gb103) (o := .cells #[.int .u64 a2_0, .int .u64 a2_1, .int .u64 a2_2, .int .u64 a2_3] 33 (0, 0)) F43_ hb); have n4_ := Aside0.mk (blk_below (g := gb117) (o := .cells #[.int .u64 t112, .int .u64 t113, .int .u64 t114, .int .u64 t115] 33 (0, 0)) F44_ hb); have n5_ := Aside0.mk (blk_below (g := gb123) (o := .cells #[.int .u64 t118, .int .u64 t119, .int .u64 t120, .int .u64 t121] 33 (0, 0)) F45_ hb); have n6_ := Aside0.mk (blk_below (g := gb134) (o := .cells #[.int .u64 t129, .int .u64 t130, .int .u64 t131, .int .u64 t132] 33 (0, 0)) F46_ hb); have n7_ := Aside0.mk (blk_below (g := gb140) (o := .cells #[.int .u64 t135, .int .u64 t136, .int .u64 t137, .int .u64 t138] 33 (0, 0)) F38_ hb); have n8_ := Aside0.mk (below_step (F36_) hb); clear HO_9; clear BK101; clear BK102; clear BK103; clear BK117; clear BK123; clear BK134; clear BK140; clear HB; have HO_9 := n0_; have BK101 := n1_; have BK102 := n2_; have BK103 := n3_; have BK117 := n4_; have BK123 := n5_; have BK134 := n6_; have BK140 := n7_; have HB := n8_; clear n0_ n1_ n2_ n3_ n4_ n5_ n6_ n7_ n8_; (try clear hb); (try clear hb2); (try clear hk); (try clear hi)))
   go_roundg k2
   case measure => have := HJ72.out; have := HK2.out; omega
   case rel => exact ⟨(wrap64 (x14_2 + 1)), (by first | rfl | (simp; done) | (simp [*]; done)), H', ⟨by have := HJ72.out; have := HK2.out; omega⟩, ⟨by (with_reducible repeat (first | apply Kd.R_alloc | apply Kd.R_drewN | apply Kd.R_drew)); exact HO_9.out⟩, ⟨F47_⟩, ⟨F48_⟩, ⟨F49_⟩, ⟨F50_⟩, ⟨F51_⟩, ⟨F36_⟩⟩) : p := h
end FoldQdunnagelaw14FitTight
end Go.Proofs.Ytppfkbigeknedaa.Q
