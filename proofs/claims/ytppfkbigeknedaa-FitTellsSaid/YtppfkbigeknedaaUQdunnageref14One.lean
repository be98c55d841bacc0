import Derived.Test.YtppfkbigeknedaaUQ0
import Derived.Test.YtppfkbigeknedaaUQdunnageref14Fits
import Derived.Test.YtppfkbigeknedaaUQdunnageref14Left
import Derived.Test.YtppfkbigeknedaaUQdunnageref14Tighter
namespace Go.Proofs.Ytppfkbigeknedaa.Q
open Go.RowKit Go.Proofs.YtppfkbigeknedaaW.PrintWords Go.Proofs.YtppfkbigeknedaaW.PrintLast Go.Proofs.YtppfkbigeknedaaW.PrintMore
attribute [local go_sem] max2_int min2_int max_two min_two max_three min_three max_four min_four   -- for this text's walks alone
set_option linter.unusedVariables false
set_option linter.unusedSimpArgs false

attribute [local go_sem] eqe_ii eqe_nn eqe_ni eqe_nni
namespace FoldQdunnageref14One
theorem F1_ {p : Prop} (h : p := by (with_reducible repeat (first | refine blk_drewN ?_ _ | refine blk_drew ?_ | refine blk_alloc ?_ _)); exact BK101.out) : p := h
theorem F2_ {p : Prop} (h : p := by (with_reducible repeat (first | refine blk_drewN ?_ _ | refine blk_drew ?_ | refine blk_alloc ?_ _)); exact BK102.out) : p := h
theorem F3_ {p : Prop} (h : p := by repeat (first | (with_reducible first | exact HB.out | apply below_alloc | apply pw_below_drewN | apply below_drew1 | refine below_set ?_ GE101.out | refine below_set ?_ GE102.out | refine below_set ?_ GE103.out | refine below_set ?_ GE114.out) | exact HB.out)) : p := h
theorem F4_ {p : Prop} (h : p := by (with_reducible repeat (first | refine blk_drewN ?_ _ | refine blk_drew ?_ | refine blk_alloc ?_ _)); exact BK103.out) : p := h
theorem F5_ {p : Prop} (h : p := by repeat (first | (with_reducible first | exact HB.out | apply below_alloc | apply pw_below_drewN | apply below_drew1 | refine below_set ?_ GE101.out | refine below_set ?_ GE102.out | refine below_set ?_ GE103.out) | exact HB.out)) : p := h
theorem F6_ {p : Prop} (h : p := by (with_reducible repeat (first | refine blk_drewN ?_ _ | refine blk_drew ?_ | refine blk_alloc ?_ _)); exact BK114.out) : p := h
theorem F7_ {p : Prop} (h : p := by (with_reducible repeat (first | apply Kd.R_alloc | apply Kd.R_drewN | apply Kd.R_drew)); exact HO_9.out) : p := h
theorem F8_ {p : Prop} (h : p := by first | exact Kd.own_blk (Kd.R_ne HO_9.out BK114.out (by decide)) | (rw [add_block]; exact Kd.own_blk (Kd.R_ne HO_9.out BK114.out (by decide))) | (show (Addr.add _ _).block ≠ _; rw [add_block]; exact Kd.own_blk (Kd.R_ne HO_9.out BK114.out (by decide))) | (dsimp only; exact Kd.own_blk (Kd.R_ne HO_9.out BK114.out (by decide)))) : p := h
theorem F9_ {p : Prop} (h : p := by first | exact Kd.own_blk (Kd.R_ne HO_9.out BK121.out (by decide)) | (rw [add_block]; exact Kd.own_blk (Kd.R_ne HO_9.out BK121.out (by decide))) | (show (Addr.add _ _).block ≠ _; rw [add_block]; exact Kd.own_blk (Kd.R_ne HO_9.out BK121.out (by decide))) | (dsimp only; exact Kd.own_blk (Kd.R_ne HO_9.out BK121.out (by decide)))) : p := h
theorem F10_ {p : Prop} (h : p := by repeat (first | (with_reducible first | exact HB.out | apply below_alloc | apply pw_below_drewN | apply below_drew1 | refine below_set ?_ GE101.out | refine below_set ?_ GE102.out | refine below_set ?_ GE103.out | refine below_set ?_ GE114.out | refine below_set ?_ GE121.out) | exact HB.out)) : p := h
theorem F11_ {p : Prop} (h : p := by (try simp only [List.map_toArray, List.map_cons, List.map_nil]); first | done | rfl | (simp only [List.length_drop, List.length_take]; rfl)) : p := h
theorem F12_ {p : Prop} (h : p := by repeat (first | exact (Kd.C_below HR0_0.out HB.out) | (with_reducible refine Kd.C_alloc ?_ _) | (with_reducible refine Kd.C_drewN ?_ _) | (with_reducible refine Kd.C_drew ?_))) : p := h
theorem F13_ {p : Prop} (h : p := by repeat (first | exact (Kd.C_below HR0_1.out HB.out) | (with_reducible refine Kd.C_alloc ?_ _) | (with_reducible refine Kd.C_drewN ?_ _) | (with_reducible refine Kd.C_drew ?_))) : p := h
theorem F14_ {p : Prop} (h : p := by repeat (first | exact (Kd.C_below HR0_2.out HB.out) | (with_reducible refine Kd.C_alloc ?_ _) | (with_reducible refine Kd.C_drewN ?_ _) | (with_reducible refine Kd.C_drew ?_))) : p := h
theorem F15_ {p : Prop} (h : p := by repeat (first | exact (Kd.C_below HR1_0.out HB.out) | (with_reducible refine Kd.C_alloc ?_ _) | (with_reducible refine Kd.C_drewN ?_ _) | (with_reducible refine Kd.C_drew ?_))) : p := h
theorem F16_ {p : Prop} (h : p := by repeat (first | (with_reducible first | exact HB.out | apply below_alloc | apply pw_below_drewN | apply below_drew1 | refine below_set ?_ GE101.out | refine below_set ?_ GE102.out) | exact HB.out)) : p := h
theorem F17_ {p : Prop} (h : p := by repeat (first | (with_reducible first | exact HB.out | apply below_alloc | apply pw_below_drewN | apply below_drew1 | refine below_set ?_ GE101.out | refine below_set ?_ GE102.out | refine below_set ?_ GE103.out) | exact HB.out)) : p := h
theorem F18_ {p : Prop} (h : p := by (with_reducible repeat (first | refine blk_drewN ?_ _ | refine blk_drew ?_ | refine blk_alloc ?_ _)); refine blk_put (cs := #[.int .u64 t116, .int .u64 t117, .int .u64 t118, .int .u64 0]) ?_ 3 _ rfl; (with_reducible repeat (first | refine blk_drewN ?_ _ | refine blk_drew ?_ | refine blk_alloc ?_ _)); refine blk_put (cs := #[.int .u64 t116, .int .u64 t117, .int .u64 0, .int .u64 0]) ?_ 2 _ rfl; (with_reducible repeat (first | refine blk_drewN ?_ _ | refine blk_drew ?_ | refine blk_alloc ?_ _)); refine blk_put (cs := #[.int .u64 t116, .int .u64 0, .int .u64 0, .int .u64 0]) ?_ 1 _ rfl; (with_reducible repeat (first | refine blk_drewN ?_ _ | refine blk_drew ?_ | refine blk_alloc ?_ _)); refine blk_put (cs := #[.int .u64 0, .int .u64 0, .int .u64 0, .int .u64 0]) ?_ 0 _ rfl; (with_reducible repeat (first | refine blk_drewN ?_ _ | refine blk_drew ?_ | refine blk_alloc ?_ _)); exact BK121.out) : p := h
theorem F19_ {p : Prop} (h : p := by (with_reducible repeat (first | refine blk_drewN ?_ _ | refine blk_drew ?_ | refine blk_alloc ?_ _)); refine blk_put (cs := #[.int .u64 t109, .int .u64 t110, .int .u64 t111, .int .u64 0]) ?_ 3 _ rfl; (with_reducible repeat (first | refine blk_drewN ?_ _ | refine blk_drew ?_ | refine blk_alloc ?_ _)); refine blk_put (cs := #[.int .u64 t109, .int .u64 t110, .int .u64 0, .int .u64 0]) ?_ 2 _ rfl; (with_reducible repeat (first | refine blk_drewN ?_ _ | refine blk_drew ?_ | refine blk_alloc ?_ _)); refine blk_put (cs := #[.int .u64 t109, .int .u64 0, .int .u64 0, .int .u64 0]) ?_ 1 _ rfl; (with_reducible repeat (first | refine blk_drewN ?_ _ | refine blk_drew ?_ | refine blk_alloc ?_ _)); refine blk_put (cs := #[.int .u64 0, .int .u64 0, .int .u64 0, .int .u64 0]) ?_ 0 _ rfl; (with_reducible repeat (first | refine blk_drewN ?_ _ | refine blk_drew ?_ | refine blk_alloc ?_ _)); exact BK114.out) : p := h
theorem F20_ {p : Prop} (h : p := by repeat (first | (with_reducible first | exact HB.out | apply below_alloc | apply pw_below_drewN | apply below_drew1 | refine below_set ?_ GE101.out) | exact HB.out)) : p := h
theorem F21_ {p : Prop} (h : p := by simp only [putAll, Act.put, List.setIfInBounds_toArray, List.set_cons_zero, List.set_cons_succ]) : p := h
theorem F22_ {p : Prop} (h : p := by repeat (first | (with_reducible first | exact HB.out | apply below_alloc | apply pw_below_drewN | apply below_drew1) | exact HB.out)) : p := h
theorem F23_ {p : Prop} (h : p := by (with_reducible repeat (first | refine blk_drewN ?_ _ | refine blk_drew ?_ | refine blk_alloc ?_ _)); refine blk_far ?_ NB101_121.out _; (with_reducible repeat (first | refine blk_drewN ?_ _ | refine blk_drew ?_ | refine blk_alloc ?_ _)); refine blk_far ?_ NB101_121.out _; (with_reducible repeat (first | refine blk_drewN ?_ _ | refine blk_drew ?_ | refine blk_alloc ?_ _)); refine blk_far ?_ NB101_121.out _; (with_reducible repeat (first | refine blk_drewN ?_ _ | refine blk_drew ?_ | refine blk_alloc ?_ _)); refine blk_far ?_ NB101_121.out _; (with_reducible repeat (first | refine blk_drewN ?_ _ | refine blk_drew ?_ | refine blk_alloc ?_ _)); exact BK101.out) : p := h
theorem F24_ {p : Prop} (h : p := by (with_reducible repeat (first | refine blk_drewN ?_ _ | refine blk_drew ?_ | refine blk_alloc ?_ _)); refine blk_far ?_ NB102_121.out _; (with_reducible repeat (first | refine blk_drewN ?_ _ | refine blk_drew ?_ | refine blk_alloc ?_ _)); refine blk_far ?_ NB102_121.out _; (with_reducible repeat (first | refine blk_drewN ?_ _ | refine blk_drew ?_ | refine blk_alloc ?_ _)); refine blk_far ?_ NB102_121.out _; (with_reducible repeat (first | refine blk_drewN ?_ _ | refine blk_drew ?_ | refine blk_alloc ?_ _)); refine blk_far ?_ NB102_121.out _; (with_reducible repeat (first | refine blk_drewN ?_ _ | refine blk_drew ?_ | refine blk_alloc ?_ _)); exact BK102.out) : p := h
theorem F25_ {p : Prop} (h : p := by (with_reducible repeat (first | refine blk_drewN ?_ _ | refine blk_drew ?_ | refine blk_alloc ?_ _)); refine blk_far ?_ NB103_121.out _; (with_reducible repeat (first | refine blk_drewN ?_ _ | refine blk_drew ?_ | refine blk_alloc ?_ _)); refine blk_far ?_ NB103_121.out _; (with_reducible repeat (first | refine blk_drewN ?_ _ | refine blk_drew ?_ | refine blk_alloc ?_ _)); refine blk_far ?_ NB103_121.out _; (with_reducible repeat (first | refine blk_drewN ?_ _ | refine blk_drew ?_ | refine blk_alloc ?_ _)); refine blk_far ?_ NB103_121.out _; (with_reducible repeat (first | refine blk_drewN ?_ _ | refine blk_drew ?_ | refine blk_alloc ?_ _)); exact BK103.out) : p := h
theorem F26_ {p : Prop} (h : p := by (with_reducible repeat (first | refine blk_drewN ?_ _ | refine blk_drew ?_ | refine blk_alloc ?_ _)); refine blk_far ?_ NB114_121.out _; (with_reducible repeat (first | refine blk_drewN ?_ _ | refine blk_drew ?_ | refine blk_alloc ?_ _)); refine blk_far ?_ NB114_121.out _; (with_reducible repeat (first | refine blk_drewN ?_ _ | refine blk_drew ?_ | refine blk_alloc ?_ _)); refine blk_far ?_ NB114_121.out _; (with_reducible repeat (first | refine blk_drewN ?_ _ | refine blk_drew ?_ | refine blk_alloc ?_ _)); refine blk_far ?_ NB114_121.out _; (with_reducible repeat (first | refine blk_drewN ?_ _ | refine blk_drew ?_ | refine blk_alloc ?_ _)); exact BK114.out) : p := h
theorem F27_ {p : Prop} (h : p := by (with_reducible repeat (first | refine blk_drewN ?_ _ | refine blk_drew ?_ | refine blk_alloc ?_ _)); refine blk_far ?_ NB101_114.out _; (with_reducible repeat (first | refine blk_drewN ?_ _ | refine blk_drew ?_ | refine blk_alloc ?_ _)); refine blk_far ?_ NB101_114.out _; (with_reducible repeat (first | refine blk_drewN ?_ _ | refine blk_drew ?_ | refine blk_alloc ?_ _)); refine blk_far ?_ NB101_114.out _; (with_reducible repeat (first | refine blk_drewN ?_ _ | refine blk_drew ?_ | refine blk_alloc ?_ _)); refine blk_far ?_ NB101_114.out _; (with_reducible repeat (first | refine blk_drewN ?_ _ | refine blk_drew ?_ | refine blk_alloc ?_ _)); exact BK101.out) : p := h
theorem F28_ {p : Prop} (h : p := by (with_reducible repeat (first | refine blk_drewN ?_ _ | refine blk_drew ?_ | refine blk_alloc ?_ _)); refine blk_far ?_ NB102_114.out _; (with_reducible repeat (first | refine blk_drewN ?_ _ | refine blk_drew ?_ | refine blk_alloc ?_ _)); refine blk_far ?_ NB102_114.out _; (with_reducible repeat (first | refine blk_drewN ?_ _ | refine blk_drew ?_ | refine blk_alloc ?_ _)); refine blk_far ?_ NB102_114.out _; (with_reducible repeat (first | refine blk_drewN ?_ _ | refine blk_drew ?_ | refine blk_alloc ?_ _)); refine blk_far ?_ NB102_114.out _; (with_reducible repeat (first | refine blk_drewN ?_ _ | refine blk_drew ?_ | refine blk_alloc ?_ _)); exact BK102.out) : p := h
theorem F29_ {p : Prop} (h : p := by (with_reducible repeat (first | refine blk_drewN ?_ _ | refine blk_drew ?_ | refine blk_alloc ?_ _)); refine blk_far ?_ NB103_114.out _; (with_reducible repeat (first | refine blk_drewN ?_ _ | refine blk_drew ?_ | refine blk_alloc ?_ _)); refine blk_far ?_ NB103_114.out _; (with_reducible repeat (first | refine blk_drewN ?_ _ | refine blk_drew ?_ | refine blk_alloc ?_ _)); refine blk_far ?_ NB103_114.out _; (with_reducible repeat (first | refine blk_drewN ?_ _ | refine blk_drew ?_ | refine blk_alloc ?_ _)); refine blk_far ?_ NB103_114.out _; (with_reducible repeat (first | refine blk_drewN ?_ _ | refine blk_drew ?_ | refine blk_alloc ?_ _)); exact BK103.out) : p := h
theorem F30_ {p : Prop} (h : p := by (with_reducible repeat (first | refine blk_drewN ?_ _ | refine blk_drew ?_ | refine blk_alloc ?_ _)); exact BK121.out) : p := h
theorem F31_ {p : Prop} (h : p := by (with_reducible repeat (first | refine blk_drewN ?_ _ | refine blk_drew ?_ | refine blk_alloc ?_ _)); exact BK101.out) : p := h
theorem F32_ {p : Prop} (h : p := by (with_reducible repeat (first | refine blk_drewN ?_ _ | refine blk_drew ?_ | refine blk_alloc ?_ _)); exact BK102.out) : p := h
theorem F33_ {p : Prop} (h : p := by (with_reducible repeat (first | refine blk_drewN ?_ _ | refine blk_drew ?_ | refine blk_alloc ?_ _)); exact BK103.out) : p := h
theorem F34_ {p : Prop} (h : p := by first | (with_reducible assumption) | assumption) : p := h
theorem F35_ {p : Prop} (h : p := by (with_reducible repeat (first | apply Kd.R_alloc | apply Kd.R_drewN | apply Kd.R_drew)); exact (Kd.R_mono (Kd.R_far (p := ⟨gb121, 3, none⟩) (Kd.R_far (p := ⟨gb121, 2, none⟩) (Kd.R_far (p := ⟨gb121, 1, none⟩) (Kd.R_far (p := ⟨gb121, 0, none⟩) (Kd.R_types HO_9.out BK121.out (by decide)) (fun _ hk => hk.2) (.int .u64 t116)) (fun _ hk => hk.2) (.int .u64 t117)) (fun _ hk => hk.2) (.int .u64 t118)) (fun _ hk => hk.2) (.int .u64 t119)) (fun _ h_ => h_.1))) : p := h
theorem F36_ {p : Prop} (h : p := by (with_reducible repeat (first | apply Kd.R_alloc | apply Kd.R_drewN | apply Kd.R_drew)); exact Kd.R_mono (Kd.R_far (p := ⟨gb114, 3, none⟩) (Kd.R_far (p := ⟨gb114, 2, none⟩) (Kd.R_far (p := ⟨gb114, 1, none⟩) (Kd.R_far (p := ⟨gb114, 0, none⟩) (Kd.R_types HO_9.out BK114.out (by decide)) (fun _ hk => hk.2) (.int .u64 t109)) (fun _ hk => hk.2) (.int .u64 t110)) (fun _ hk => hk.2) (.int .u64 t111)) (fun _ hk => hk.2) (.int .u64 t112)) (fun _ hk => trivial)) : p := h
theorem F37_ {p : Prop} (h : p := by first | rfl | (simp; done) | (simp [*]; done)) : p := h
theorem F38_ {p : Prop} (h : p := by (with_reducible repeat (first | apply Kd.R_alloc | apply Kd.R_drewN | apply Kd.R_drew)); exact HO_9.out) : p := h
theorem F39_ {p : Prop} (h : p := by repeat (first | (with_reducible first | exact HB.out | apply below_alloc | apply pw_below_drewN | apply below_drew1 | refine below_set ?_ GE101.out | refine below_set ?_ GE102.out | refine below_set ?_ GE103.out | refine below_set ?_ GE114.out | refine below_set ?_ GE121.out) | exact HB.out)) : p := h
theorem F40_ {p : Prop} (h : p := by repeat (first | (with_reducible first | exact HB.out | apply below_alloc | apply pw_below_drewN | apply below_drew1 | refine below_set ?_ GE101.out | refine below_set ?_ GE102.out | refine below_set ?_ GE103.out | refine below_set ?_ GE114.out) | exact HB.out)) : p := h
end FoldQdunnageref14One
open FoldQdunnageref14One
/-! ### dunnageref14_One: function 70 -/
mutual
def dunnageref14_One.l0 : Nat → Bool → List Int → Int → Int → List (S150) → List (S260) → List (S70) → List (S70) → Int → Int → Int → Int → Int → Int → Option (Int)
 | 0, _, _, _, _, _, _, _, _, _, _, _, _, _, _ => none
 | k + 1, x3, x9, x10, x11, x102000, x102001, x102002, x103000, x103001, x103002, x104000, x104001, x104002, x104003 => if x11 < (x9.length : Int) then (dunnageref14_One.j1 k x3 x9 x10 x11 x3 x102000 x102001 x102002 x103000 x103001 x103002 x104000 x104001 x104002 x104003) else (dunnageref14_One.j1 k x3 x9 x10 x11 false x102000 x102001 x102002 x103000 x103001 x103002 x104000 x104001 x104002 x104003)
def dunnageref14_One.j1 : Nat → Bool → List Int → Int → Int → Bool → List (S150) → List (S260) → List (S70) → List (S70) → Int → Int → Int → Int → Int → Int → Option (Int)
 | 0, _, _, _, _, _, _, _, _, _, _, _, _, _, _, _ => none
 | k + 1, x3, x9, x10, x11, x30, x102000, x102001, x102002, x103000, x103001, x103002, x104000, x104001, x104002, x104003 => if x30 = true then (if 0 ≤ x11 then (if x11 < (x9.length : Int) then ((dunnageref14_Left.f k x102000 x102001 x102002 x103000 x103001 x103002 (rd x9 x11) x104000 x104001 x104002 x104003).bind fun bt109 => (if 0 ≤ x10 then (if x10 < (x9.length : Int) then ((dunnageref14_Left.f k x102000 x102001 x102002 x103000 x103001 x103002 (rd x9 x10) x104000 x104001 x104002 x104003).bind fun bt116 => ((dunnageref14_Tighter.f bt109.1 bt109.2.1 bt109.2.2.1 bt109.2.2.2.1 bt116.1 bt116.2.1 bt116.2.2.1 bt116.2.2.2.1).bind fun t122 => (if t122 = true then (dunnageref14_One.l0 k x3 x9 x11 (wrap64 (x11 + 1)) x102000 x102001 x102002 x103000 x103001 x103002 x104000 x104001 x104002 x104003) else (dunnageref14_One.l0 k x3 x9 x10 (wrap64 (x11 + 1)) x102000 x102001 x102002 x103000 x103001 x103002 x104000 x104001 x104002 x104003)))) else (none)) else (none))) else (none)) else (none)) else (if 0 ≤ x10 then (if x10 < (x9.length : Int) then (some (rd x9 x10)) else (none)) else (none))
end
def dunnageref14_One.f (k : Nat) (l0_0 : List (S150)) (l0_1 : List (S260)) (l0_2 : List (S70)) (l1_0 : List (S70)) (a1_1 : Int) (a1_2 : Int) (a2_0 : Int) (a2_1 : Int) (a2_2 : Int) (a2_3 : Int) (a3 : Bool) : Option (Int) := (dunnageref14_Fits.f k l0_0 l0_1 l0_2 l1_0 a1_1 a1_2 a2_0 a2_1 a2_2 a2_3).bind fun t104 => (if (t104.length : Int) = 0 then (some 0) else (dunnageref14_One.l0 k a3 t104 0 1 l0_0 l0_1 l0_2 l1_0 a1_1 a1_2 a2_0 a2_1 a2_2 a2_3))
theorem dunnageref14_One.mono_l : ∀ k, (∀ y0 y1 y2 y3 y4 y5 y6 y7 y8 y9 y10 y11 y12 y13, LeO (dunnageref14_One.l0 k y0 y1 y2 y3 y4 y5 y6 y7 y8 y9 y10 y11 y12 y13) (dunnageref14_One.l0 (k + 1) y0 y1 y2 y3 y4 y5 y6 y7 y8 y9 y10 y11 y12 y13)) ∧ (∀ y0 y1 y2 y3 y4 y5 y6 y7 y8 y9 y10 y11 y12 y13 y14, LeO (dunnageref14_One.j1 k y0 y1 y2 y3 y4 y5 y6 y7 y8 y9 y10 y11 y12 y13 y14) (dunnageref14_One.j1 (k + 1) y0 y1 y2 y3 y4 y5 y6 y7 y8 y9 y10 y11 y12 y13 y14))
 | 0 => ⟨fun _ _ _ _ _ _ _ _ _ _ _ _ _ _ r h => by simp [dunnageref14_One.l0] at h, fun _ _ _ _ _ _ _ _ _ _ _ _ _ _ _ r h => by simp [dunnageref14_One.j1] at h⟩
 | k + 1 => by
  obtain ⟨ih0, ih1⟩ := dunnageref14_One.mono_l k
  refine ⟨?_, ?_⟩
  ·intro y0 y1 y2 y3 y4 y5 y6 y7 y8 y9 y10 y11 y12 y13
   unfold dunnageref14_One.l0
   repeat' first
   | (with_reducible exact ih0 _ _ _ _ _ _ _ _ _ _ _ _ _ _)
   | (with_reducible exact ih1 _ _ _ _ _ _ _ _ _ _ _ _ _ _ _)
   | (with_reducible exact dunnageref14_Fits.mono _ _ _ _ _ _ _ _ _ _ _)
   | (with_reducible exact dunnageref14_Left.mono _ _ _ _ _ _ _ _ _ _ _ _)
   | (with_reducible exact LeO.refl _)
   | (with_reducible exact LeO.none _)
   | (with_reducible refine LeO.ite ?_ ?_)
   | (with_reducible refine LeO.bind ?_ (fun _ => ?_))
   | exact ih0 _ _ _ _ _ _ _ _ _ _ _ _ _ _
   | exact ih1 _ _ _ _ _ _ _ _ _ _ _ _ _ _ _
   | exact dunnageref14_Fits.mono _ _ _ _ _ _ _ _ _ _ _
   | exact dunnageref14_Left.mono _ _ _ _ _ _ _ _ _ _ _ _
   | exact LeO.none _
   | refine LeO.ite ?_ ?_
   | refine LeO.bind ?_ (fun _ => ?_)
  ·intro y0 y1 y2 y3 y4 y5 y6 y7 y8 y9 y10 y11 y12 y13 y14
   unfold dunnageref14_One.j1
   repeat' first
   | (with_reducible exact ih0 _ _ _ _ _ _ _ _ _ _ _ _ _ _)
   | (with_reducible exact ih1 _ _ _ _ _ _ _ _ _ _ _ _ _ _ _)
   | (with_reducible exact dunnageref14_Fits.mono _ _ _ _ _ _ _ _ _ _ _)
   | (with_reducible exact dunnageref14_Left.mono _ _ _ _ _ _ _ _ _ _ _ _)
   | (with_reducible exact LeO.refl _)
   | (with_reducible exact LeO.none _)
   | (with_reducible refine LeO.ite ?_ ?_)
   | (with_reducible refine LeO.bind ?_ (fun _ => ?_))
   | exact ih0 _ _ _ _ _ _ _ _ _ _ _ _ _ _
   | exact ih1 _ _ _ _ _ _ _ _ _ _ _ _ _ _ _
   | exact dunnageref14_Fits.mono _ _ _ _ _ _ _ _ _ _ _
   | exact dunnageref14_Left.mono _ _ _ _ _ _ _ _ _ _ _ _
   | exact LeO.none _
   | refine LeO.ite ?_ ?_
   | refine LeO.bind ?_ (fun _ => ?_)
theorem dunnageref14_One.mono : ∀ a0 a1 a2 a3 a4 a5 a6 a7 a8 a9 a10 k, LeO (dunnageref14_One.f k a0 a1 a2 a3 a4 a5 a6 a7 a8 a9 a10) (dunnageref14_One.f (k + 1) a0 a1 a2 a3 a4 a5 a6 a7 a8 a9 a10) := by
 intro a0 a1 a2 a3 a4 a5 a6 a7 a8 a9 a10 k
 obtain ⟨ih0, ih1⟩ := dunnageref14_One.mono_l k
 unfold dunnageref14_One.f
 repeat' first
   | (with_reducible exact ih0 _ _ _ _ _ _ _ _ _ _ _ _ _ _)
   | (with_reducible exact ih1 _ _ _ _ _ _ _ _ _ _ _ _ _ _ _)
   | (with_reducible exact dunnageref14_Fits.mono _ _ _ _ _ _ _ _ _ _ _)
   | (with_reducible exact dunnageref14_Left.mono _ _ _ _ _ _ _ _ _ _ _ _)
   | (with_reducible exact LeO.refl _)
   | (with_reducible exact LeO.none _)
   | (with_reducible refine LeO.ite ?_ ?_)
   | (with_reducible refine LeO.bind ?_ (fun _ => ?_))
   | exact ih0 _ _ _ _ _ _ _ _ _ _ _ _ _ _
   | exact ih1 _ _ _ _ _ _ _ _ _ _ _ _ _ _ _
   | exact dunnageref14_Fits.mono _ _ _ _ _ _ _ _ _ _ _
   | exact dunnageref14_Left.mono _ _ _ _ _ _ _ _ _ _ _ _
   | exact LeO.none _
   | refine LeO.ite ?_ ?_
   | refine LeO.bind ?_ (fun _ => ?_)
def dunnageref14_One.T8 : Bool × List (List Nat × List Nat) := (true, [([], []), ([], []), ([], []), ([], []), ([2, 3], [2, 3]), ([4], [4]), ([], []), ([0, 1, 5, 6], [0, 1, 5, 6]), ([7], [7]), ([8], [8]), ([8], [8]), ([], []), ([11, 9, 7, 0, 1, 2, 3, 4, 5, 6, 7, 8, 9, 11], [9, 11]), ([10, 12, 0, 1, 2, 3, 4, 5, 6, 7, 8, 9, 10, 11, 12], [10])])
def dunnageref14_One.B8 : List Nat := [0, 0, 0, 0, 12, 28, 0, 127, 255, 511, 511, 0, 3071, 8191]
theorem dunnageref14_One.tab8 : rtab .any (opsOf Try.f70 8) = dunnageref14_One.T8 := by kernel_rfl
theorem dunnageref14_One.bits8 : waitsOk dunnageref14_One.T8.2 dunnageref14_One.B8 = true := by kernel_rfl
def dunnageref14_One.T9 : Bool × List (List Nat × List Nat) := (true, [([], []), ([], []), ([], []), ([], []), ([2, 3], [2, 3]), ([4], [4]), ([], []), ([0, 1, 5, 6], [0, 1, 5, 6]), ([7], [7]), ([8], [8]), ([8], [8]), ([], []), ([11, 9, 7, 0, 1, 2, 3, 4, 5, 6, 7, 8, 9, 11], [9, 11]), ([10, 12, 0, 1, 2, 3, 4, 5, 6, 7, 8, 9, 10, 11, 12], [10])])
def dunnageref14_One.B9 : List Nat := [0, 0, 0, 0, 12, 28, 0, 127, 255, 511, 511, 0, 3071, 8191]
theorem dunnageref14_One.tab9 : rtab .any (opsOf Try.f70 9) = dunnageref14_One.T9 := by kernel_rfl
theorem dunnageref14_One.bits9 : waitsOk dunnageref14_One.T9.2 dunnageref14_One.B9 = true := by kernel_rfl
set_option maxHeartbeats 8000000 in
set_option maxRecDepth 100000 in
theorem dunnageref14_One.calls (k : Nat) (A0_0 : Option Addr) (c0_0 : Nat) (l0_0 : List (S150)) (A0_1 : Option Addr) (c0_1 : Nat) (l0_1 : List (S260)) (A0_2 : Option Addr) (c0_2 : Nat) (l0_2 : List (S70)) (A1_0 : Option Addr) (c1_0 : Nat) (l1_0 : List (S70)) (a1_1 : Int) (a1_2 : Int) (a2_0 : Int) (a2_1 : Int) (a2_2 : Int) (a2_3 : Int) (a3 : Bool) (r : Int) (w : World) (hr0_0 : Kd.C k150 w A0_0 l0_0.length l0_0) (hc0_0 : l0_0.length ≤ c0_0) (hr0_1 : Kd.C k260 w A0_1 l0_1.length l0_1) (hc0_1 : l0_1.length ≤ c0_1) (hr0_2 : Kd.C k70 w A0_2 l0_2.length l0_2) (hc0_2 : l0_2.length ≤ c0_2) (hr1_0 : Kd.C k70 w A1_0 l1_0.length l1_0) (hc1_0 : l1_0.length ≤ c1_0) (h : dunnageref14_One.f k l0_0 l0_1 l0_2 l1_0 a1_1 a1_2 a2_0 a2_1 a2_2 a2_3 a3 = some r) :
  Calls Try.prog 70 #[.agg #[.slice A0_0 l0_0.length c0_0, .slice A0_1 l0_1.length c0_1, .slice A0_2 l0_2.length c0_2], .agg #[.slice A1_0 l1_0.length c1_0, .int .i64 a1_1, .int .i64 a1_2], .agg #[.int .u64 a2_0, .int .u64 a2_1, .int .u64 a2_2, .int .u64 a2_3], .bool a3] w fun e w' => e = .returned (.int .i64 r) ∧ Below w.heap.size w w' := by
 have hu96 := Try.underlying96
 have hu26 := Try.underlying26
 have hu33 := Try.underlying33
 have HR0_0 := Aside0.mk hr0_0
 have HC0_0 := Aside0.mk hc0_0
 clear hr0_0 hc0_0
 have HR0_1 := Aside0.mk hr0_1
 have HC0_1 := Aside0.mk hc0_1
 clear hr0_1 hc0_1
 have HR0_2 := Aside0.mk hr0_2
 have HC0_2 := Aside0.mk hc0_2
 clear hr0_2 hc0_2
 have HR1_0 := Aside0.mk hr1_0
 have HC1_0 := Aside0.mk hc1_0
 clear hr1_0 hc1_0
 have HB := Aside0.mk (Below.refl w.heap.size w)
 have H : ((dunnageref14_Fits.f k l0_0 l0_1 l0_2 l1_0 a1_1 a1_2 a2_0 a2_1 a2_2 a2_3).bind fun t104 => (if (t104.length : Int) = 0 then (some 0) else (dunnageref14_One.l0 k a3 t104 0 1 l0_0 l0_1 l0_2 l1_0 a1_1 a1_2 a2_0 a2_1 a2_2 a2_3))) = some r := h
 clear h
 replace H := Option.bind_eq_some_iff.mp H
 obtain ⟨t104, A50, H⟩ := H
 replace H : (if (t104.length : Int) = 0 then (some 0) else (dunnageref14_One.l0 k a3 t104 0 1 l0_0 l0_1 l0_2 l1_0 a1_1 a1_2 a2_0 a2_1 a2_2 a2_3)) = some r := H
 have A5 := Aside0.mk A50
 clear A50
 by_cases c6 : (t104.length : Int) = 0
 ·rw [if_pos c6] at H
  have c6b0 : ((t104.length : Int) == 0) = true := beq_iff_eq.mpr c6
  have c6b1 : ((t104.length : Int) != 0) = false := bne_eq_false_iff_eq.mpr c6
  clear c6
  obtain rfl := Option.some.inj H
  go_enter Try.func70, Try.ntmps70
  go_wp2_with (first | ((with_reducible refine gate_dst (N := 4) rfl ?_); refine box_event ?hg (N := 4) ?hd (cs := #[.slice A0_0 l0_0.length c0_0, .slice A0_1 l0_1.length c0_1, .slice A0_2 l0_2.length c0_2]) (t := 96) ?hr ?_; (case hd => rfl); (case hg => rfl); (case hr => first | (go_simp; done) | (go_simp; rfl)); intro gb101 hg w7 hbox hb; have n0_ := Aside0.mk (below_step F22_ hb); have n1_ := Aside0.mk (hbox); have n2_ := Aside0.mk ((by rw [hg]; exact (below_size F22_) : w.heap.size ≤ gb101)); have n3_ := Aside0.mk ((by rw [hg]; exact (below_size F22_) : w.heap.size ≤ gb101)); clear HB; have HB := n0_; have BK101 := n1_; have GW101 := n2_; have GE101 := n3_; clear n0_ n1_ n2_ n3_; clear hb hbox hg) | ((with_reducible refine gate_dst (N := 5) rfl ?_); refine box_event ?hg (N := 5) ?hd (cs := #[.slice A1_0 l1_0.length c1_0, .int .i64 a1_1, .int .i64 a1_2]) (t := 26) ?hr ?_; (case hd => rfl); (case hg => rfl); (case hr => first | (go_simp; done) | (go_simp; rfl)); intro gb102 hg w8 hbox hb; have n0_ := Aside0.mk (blk_below (g := gb101) (o := .cells #[.slice A0_0 l0_0.length c0_0, .slice A0_1 l0_1.length c0_1, .slice A0_2 l0_2.length c0_2] 96 (0, 0)) F1_ hb); have n1_ := Aside0.mk (below_step F20_ hb); have n2_ := Aside0.mk (hbox); have n3_ := Aside0.mk ((by rw [hg]; exact (below_size F20_) : w.heap.size ≤ gb102)); have n4_ := Aside0.mk ((by rw [hg]; exact (below_size F20_) : w.heap.size ≤ gb102)); have n5_ := Aside0.mk ((by rw [hg]; exact Nat.ne_of_lt (blk_lt (g := gb101) (o := .cells #[.slice A0_0 l0_0.length c0_0, .slice A0_1 l0_1.length c0_1, .slice A0_2 l0_2.length c0_2] 96 (0, 0)) F1_) : gb101 ≠ gb102)); have n6_ := Aside0.mk ((by rw [hg]; exact Nat.ne_of_gt (blk_lt (g := gb101) (o := .cells #[.slice A0_0 l0_0.length c0_0, .slice A0_1 l0_1.length c0_1, .slice A0_2 l0_2.length c0_2] 96 (0, 0)) F1_) : gb102 ≠ gb101)); clear BK101; clear HB; have BK101 := n0_; have HB := n1_; have BK102 := n2_; have GW102 := n3_; have GE102 := n4_; have NB101_102 := n5_; have NB102_101 := n6_; clear n0_ n1_ n2_ n3_ n4_ n5_ n6_; clear hb hbox hg) | ((with_reducible refine gate_dst (N := 6) rfl ?_); refine box_event ?hg (N := 6) ?hd (cs := #[.int .u64 a2_0, .int .u64 a2_1, .int .u64 a2_2, .int .u64 a2_3]) (t := 33) ?hr ?_; (case hd => rfl); (case hg => rfl); (case hr => first | (go_simp; done) | (go_simp; rfl)); intro gb103 hg w9 hbox hb; have n0_ := Aside0.mk (blk_below (g := gb101) (o := .cells #[.slice A0_0 l0_0.length c0_0, .slice A0_1 l0_1.length c0_1, .slice A0_2 l0_2.length c0_2] 96 (0, 0)) F1_ hb); have n1_ := Aside0.mk (blk_below (g := gb102) (o := .cells #[.slice A1_0 l1_0.length c1_0, .int .i64 a1_1, .int .i64 a1_2] 26 (0, 0)) F2_ hb); have n2_ := Aside0.mk (below_step F16_ hb); have n3_ := Aside0.mk (hbox); have n4_ := Aside0.mk ((by rw [hg]; exact (below_size F16_) : w.heap.size ≤ gb103)); have n5_ := Aside0.mk ((by rw [hg]; exact (below_size F16_) : w.heap.size ≤ gb103)); have n6_ := Aside0.mk ((by rw [hg]; exact Nat.ne_of_lt (blk_lt (g := gb101) (o := .cells #[.slice A0_0 l0_0.length c0_0, .slice A0_1 l0_1.length c0_1, .slice A0_2 l0_2.length c0_2] 96 (0, 0)) F1_) : gb101 ≠ gb103)); have n7_ := Aside0.mk ((by rw [hg]; exact Nat.ne_of_gt (blk_lt (g := gb101) (o := .cells #[.slice A0_0 l0_0.length c0_0, .slice A0_1 l0_1.length c0_1, .slice A0_2 l0_2.length c0_2] 96 (0, 0)) F1_) : gb103 ≠ gb101)); have n8_ := Aside0.mk ((by rw [hg]; exact Nat.ne_of_lt (blk_lt (g := gb102) (o := .cells #[.slice A1_0 l1_0.length c1_0, .int .i64 a1_1, .int .i64 a1_2] 26 (0, 0)) F2_) : gb102 ≠ gb103)); have n9_ := Aside0.mk ((by rw [hg]; exact Nat.ne_of_gt (blk_lt (g := gb102) (o := .cells #[.slice A1_0 l1_0.length c1_0, .int .i64 a1_1, .int .i64 a1_2] 26 (0, 0)) F2_) : gb103 ≠ gb102)); clear BK101; clear BK102; clear HB; have BK101 := n0_; have BK102 := n1_; have HB := n2_; have BK103 := n3_; have GW103 := n4_; have GE103 := n5_; have NB101_103 := n6_; have NB103_101 := n7_; have NB102_103 := n8_; have NB103_102 := n9_; clear n0_ n1_ n2_ n3_ n4_ n5_ n6_ n7_ n8_ n9_; clear hb hbox hg; have hnb10 := NB101_102.out; have hnc10 := NB102_101.out; have hnb11 := NB101_103.out; have hnc11 := NB103_101.out; have hcz12_0 : w9.cell? ⟨gb101, 0, none⟩ = some (.slice A0_0 l0_0.length c0_0) := (blk_cell BK101.out 0).trans rfl; have hcz12_1 : w9.cell? ⟨gb101, 1, none⟩ = some (.slice A0_1 l0_1.length c0_1) := (blk_cell BK101.out 1).trans rfl; have hcz12_2 : w9.cell? ⟨gb101, 2, none⟩ = some (.slice A0_2 l0_2.length c0_2) := (blk_cell BK101.out 2).trans rfl; have hfz12_0 := blk_frozen BK101.out 0; have hfz12_1 := blk_frozen BK101.out 1; have hfz12_2 := blk_frozen BK101.out 2; have hnb13 := NB102_103.out; have hnc13 := NB103_102.out; have hcz14_0 : w9.cell? ⟨gb102, 0, none⟩ = some (.slice A1_0 l1_0.length c1_0) := (blk_cell BK102.out 0).trans rfl; have hcz14_1 : w9.cell? ⟨gb102, 1, none⟩ = some (.int .i64 a1_1) := (blk_cell BK102.out 1).trans rfl; have hcz14_2 : w9.cell? ⟨gb102, 2, none⟩ = some (.int .i64 a1_2) := (blk_cell BK102.out 2).trans rfl; have hfz14_0 := blk_frozen BK102.out 0; have hfz14_1 := blk_frozen BK102.out 1; have hfz14_2 := blk_frozen BK102.out 2; have hcz15_0 : w9.cell? ⟨gb103, 0, none⟩ = some (.int .u64 a2_0) := (blk_cell BK103.out 0).trans rfl; have hcz15_1 : w9.cell? ⟨gb103, 1, none⟩ = some (.int .u64 a2_1) := (blk_cell BK103.out 1).trans rfl; have hcz15_2 : w9.cell? ⟨gb103, 2, none⟩ = some (.int .u64 a2_2) := (blk_cell BK103.out 2).trans rfl; have hcz15_3 : w9.cell? ⟨gb103, 3, none⟩ = some (.int .u64 a2_3) := (blk_cell BK103.out 3).trans rfl; have hfz15_0 := blk_frozen BK103.out 0; have hfz15_1 := blk_frozen BK103.out 1; have hfz15_2 := blk_frozen BK103.out 2; have hfz15_3 := blk_frozen BK103.out 3) | ((with_reducible refine gate_callee (f := 68) rfl ?_); refine goesL_ (some 20) rfl rfl Try.func68 (by kernel_rfl) rfl #[.agg #[.slice A0_0 l0_0.length c0_0, .slice A0_1 l0_1.length c0_1, .slice A0_2 l0_2.length c0_2], .agg #[.slice A1_0 l1_0.length c1_0, .int .i64 a1_1, .int .i64 a1_2], .agg #[.int .u64 a2_0, .int .u64 a2_1, .int .u64 a2_2, .int .u64 a2_3]] rfl F11_ ?_; (with_reducible refine (dunnageref14_Fits.calls k _ _ l0_0 _ _ l0_1 _ _ l0_2 _ _ l1_0 a1_1 a1_2 a2_0 a2_1 a2_2 a2_3 t104 _ ?side1 ?side2 ?side3 ?side4 ?side5 ?side6 ?side7 ?side8 A5.out).mono ?_); (case side1 => exact F12_); (case side2 => exact HC0_0.out); (case side3 => exact F13_); (case side4 => exact HC0_1.out); (case side5 => exact F14_); (case side6 => exact HC0_2.out); (case side7 => exact F15_); (case side8 => exact HC1_0.out); rintro e w16 ⟨v105, rfl, ho0, hb⟩; refine ⟨_, rfl, ?_⟩; have n0_ := Aside0.mk (Kd.R_lower ho0 (below_size F5_)); have n1_ := Aside0.mk (blk_below (g := gb101) (o := .cells #[.slice A0_0 l0_0.length c0_0, .slice A0_1 l0_1.length c0_1, .slice A0_2 l0_2.length c0_2] 96 (0, 0)) F1_ hb); have n2_ := Aside0.mk (blk_below (g := gb102) (o := .cells #[.slice A1_0 l1_0.length c1_0, .int .i64 a1_1, .int .i64 a1_2] 26 (0, 0)) F2_ hb); have n3_ := Aside0.mk (blk_below (g := gb103) (o := .cells #[.int .u64 a2_0, .int .u64 a2_1, .int .u64 a2_2, .int .u64 a2_3] 33 (0, 0)) F4_ hb); have n4_ := Aside0.mk (below_step F5_ hb); clear BK101; clear BK102; clear BK103; clear HB; have HO106 := n0_; have BK101 := n1_; have BK102 := n2_; have BK103 := n3_; have HB := n4_; clear n0_ n1_ n2_ n3_ n4_; (try clear hb); (try clear hb2); (try clear hk); (try clear hi); (try clear ho0); obtain ⟨Ao17, co17, eo17⟩ := Kd.R_slice HO106.out; subst eo17))
  go_ret
  exact ⟨by first | rfl | (simp [errW_none, errW_some] <;> rfl) | (simp [*, errW_none, errW_some] <;> rfl), F17_⟩
 ·rw [if_neg c6] at H
  have c6b0 : ((t104.length : Int) == 0) = false := beq_eq_false_iff_ne.mpr c6
  have c6b1 : ((t104.length : Int) != 0) = true := bne_iff_ne.mpr c6
  have c6b2 : ¬ (t104 = []) := fun h_ => c6 (by rw [h_]; rfl)
  have H' := Aside0.mk H
  clear H
  go_enter Try.func70, Try.ntmps70
  go_wp2_with (first | ((with_reducible refine gate_dst (N := 4) rfl ?_); refine box_event ?hg (N := 4) ?hd (cs := #[.slice A0_0 l0_0.length c0_0, .slice A0_1 l0_1.length c0_1, .slice A0_2 l0_2.length c0_2]) (t := 96) ?hr ?_; (case hd => rfl); (case hg => rfl); (case hr => first | (go_simp; done) | (go_simp; rfl)); intro gb101 hg w18 hbox hb; have n0_ := Aside0.mk (below_step F22_ hb); have n1_ := Aside0.mk (hbox); have n2_ := Aside0.mk ((by rw [hg]; exact (below_size F22_) : w.heap.size ≤ gb101)); have n3_ := Aside0.mk ((by rw [hg]; exact (below_size F22_) : w.heap.size ≤ gb101)); clear HB; have HB := n0_; have BK101 := n1_; have GW101 := n2_; have GE101 := n3_; clear n0_ n1_ n2_ n3_; clear hb hbox hg) | ((with_reducible refine gate_dst (N := 5) rfl ?_); refine box_event ?hg (N := 5) ?hd (cs := #[.slice A1_0 l1_0.length c1_0, .int .i64 a1_1, .int .i64 a1_2]) (t := 26) ?hr ?_; (case hd => rfl); (case hg => rfl); (case hr => first | (go_simp; done) | (go_simp; rfl)); intro gb102 hg w19 hbox hb; have n0_ := Aside0.mk (blk_below (g := gb101) (o := .cells #[.slice A0_0 l0_0.length c0_0, .slice A0_1 l0_1.length c0_1, .slice A0_2 l0_2.length c0_2] 96 (0, 0)) F1_ hb); have n1_ := Aside0.mk (below_step F20_ hb); have n2_ := Aside0.mk (hbox); have n3_ := Aside0.mk ((by rw [hg]; exact (below_size F20_) : w.heap.size ≤ gb102)); have n4_ := Aside0.mk ((by rw [hg]; exact (below_size F20_) : w.heap.size ≤ gb102)); have n5_ := Aside0.mk ((by rw [hg]; exact Nat.ne_of_lt (blk_lt (g := gb101) (o := .cells #[.slice A0_0 l0_0.length c0_0, .slice A0_1 l0_1.length c0_1, .slice A0_2 l0_2.length c0_2] 96 (0, 0)) F1_) : gb101 ≠ gb102)); have n6_ := Aside0.mk ((by rw [hg]; exact Nat.ne_of_gt (blk_lt (g := gb101) (o := .cells #[.slice A0_0 l0_0.length c0_0, .slice A0_1 l0_1.length c0_1, .slice A0_2 l0_2.length c0_2] 96 (0, 0)) F1_) : gb102 ≠ gb101)); clear BK101; clear HB; have BK101 := n0_; have HB := n1_; have BK102 := n2_; have GW102 := n3_; have GE102 := n4_; have NB101_102 := n5_; have NB102_101 := n6_; clear n0_ n1_ n2_ n3_ n4_ n5_ n6_; clear hb hbox hg) | ((with_reducible refine gate_dst (N := 6) rfl ?_); refine box_event ?hg (N := 6) ?hd (cs := #[.int .u64 a2_0, .int .u64 a2_1, .int .u64 a2_2, .int .u64 a2_3]) (t := 33) ?hr ?_; (case hd => rfl); (case hg => rfl); (case hr => first | (go_simp; done) | (go_simp; rfl)); intro gb103 hg w20 hbox hb; have n0_ := Aside0.mk (blk_below (g := gb101) (o := .cells #[.slice A0_0 l0_0.length c0_0, .slice A0_1 l0_1.length c0_1, .slice A0_2 l0_2.length c0_2] 96 (0, 0)) F1_ hb); have n1_ := Aside0.mk (blk_below (g := gb102) (o := .cells #[.slice A1_0 l1_0.length c1_0, .int .i64 a1_1, .int .i64 a1_2] 26 (0, 0)) F2_ hb); have n2_ := Aside0.mk (below_step F16_ hb); have n3_ := Aside0.mk (hbox); have n4_ := Aside0.mk ((by rw [hg]; exact (below_size F16_) : w.heap.size ≤ gb103)); have n5_ := Aside0.mk ((by rw [hg]; exact (below_size F16_) : w.heap.size ≤ gb103)); have n6_ := Aside0.mk ((by rw [hg]; exact Nat.ne_of_lt (blk_lt (g := gb101) (o := .cells #[.slice A0_0 l0_0.length c0_0, .slice A0_1 l0_1.length c0_1, .slice A0_2 l0_2.length c0_2] 96 (0, 0)) F1_) : gb101 ≠ gb103)); have n7_ := Aside0.mk ((by rw [hg]; exact Nat.ne_of_gt (blk_lt (g := gb101) (o := .cells #[.slice A0_0 l0_0.length c0_0, .slice A0_1 l0_1.length c0_1, .slice A0_2 l0_2.length c0_2] 96 (0, 0)) F1_) : gb103 ≠ gb101)); have n8_ := Aside0.mk ((by rw [hg]; exact Nat.ne_of_lt (blk_lt (g := gb102) (o := .cells #[.slice A1_0 l1_0.length c1_0, .int .i64 a1_1, .int .i64 a1_2] 26 (0, 0)) F2_) : gb102 ≠ gb103)); have n9_ := Aside0.mk ((by rw [hg]; exact Nat.ne_of_gt (blk_lt (g := gb102) (o := .cells #[.slice A1_0 l1_0.length c1_0, .int .i64 a1_1, .int .i64 a1_2] 26 (0, 0)) F2_) : gb103 ≠ gb102)); clear BK101; clear BK102; clear HB; have BK101 := n0_; have BK102 := n1_; have HB := n2_; have BK103 := n3_; have GW103 := n4_; have GE103 := n5_; have NB101_103 := n6_; have NB103_101 := n7_; have NB102_103 := n8_; have NB103_102 := n9_; clear n0_ n1_ n2_ n3_ n4_ n5_ n6_ n7_ n8_ n9_; clear hb hbox hg; have hnb21 := NB101_102.out; have hnc21 := NB102_101.out; have hnb22 := NB101_103.out; have hnc22 := NB103_101.out; have hcz23_0 : w20.cell? ⟨gb101, 0, none⟩ = some (.slice A0_0 l0_0.length c0_0) := (blk_cell BK101.out 0).trans rfl; have hcz23_1 : w20.cell? ⟨gb101, 1, none⟩ = some (.slice A0_1 l0_1.length c0_1) := (blk_cell BK101.out 1).trans rfl; have hcz23_2 : w20.cell? ⟨gb101, 2, none⟩ = some (.slice A0_2 l0_2.length c0_2) := (blk_cell BK101.out 2).trans rfl; have hfz23_0 := blk_frozen BK101.out 0; have hfz23_1 := blk_frozen BK101.out 1; have hfz23_2 := blk_frozen BK101.out 2; have hnb24 := NB102_103.out; have hnc24 := NB103_102.out; have hcz25_0 : w20.cell? ⟨gb102, 0, none⟩ = some (.slice A1_0 l1_0.length c1_0) := (blk_cell BK102.out 0).trans rfl; have hcz25_1 : w20.cell? ⟨gb102, 1, none⟩ = some (.int .i64 a1_1) := (blk_cell BK102.out 1).trans rfl; have hcz25_2 : w20.cell? ⟨gb102, 2, none⟩ = some (.int .i64 a1_2) := (blk_cell BK102.out 2).trans rfl; have hfz25_0 := blk_frozen BK102.out 0; have hfz25_1 := blk_frozen BK102.out 1; have hfz25_2 := blk_frozen BK102.out 2; have hcz26_0 : w20.cell? ⟨gb103, 0, none⟩ = some (.int .u64 a2_0) := (blk_cell BK103.out 0).trans rfl; have hcz26_1 : w20.cell? ⟨gb103, 1, none⟩ = some (.int .u64 a2_1) := (blk_cell BK103.out 1).trans rfl; have hcz26_2 : w20.cell? ⟨gb103, 2, none⟩ = some (.int .u64 a2_2) := (blk_cell BK103.out 2).trans rfl; have hcz26_3 : w20.cell? ⟨gb103, 3, none⟩ = some (.int .u64 a2_3) := (blk_cell BK103.out 3).trans rfl; have hfz26_0 := blk_frozen BK103.out 0; have hfz26_1 := blk_frozen BK103.out 1; have hfz26_2 := blk_frozen BK103.out 2; have hfz26_3 := blk_frozen BK103.out 3) | ((with_reducible refine gate_callee (f := 68) rfl ?_); refine goesL_ (some 20) rfl rfl Try.func68 (by kernel_rfl) rfl #[.agg #[.slice A0_0 l0_0.length c0_0, .slice A0_1 l0_1.length c0_1, .slice A0_2 l0_2.length c0_2], .agg #[.slice A1_0 l1_0.length c1_0, .int .i64 a1_1, .int .i64 a1_2], .agg #[.int .u64 a2_0, .int .u64 a2_1, .int .u64 a2_2, .int .u64 a2_3]] rfl F11_ ?_; (with_reducible refine (dunnageref14_Fits.calls k _ _ l0_0 _ _ l0_1 _ _ l0_2 _ _ l1_0 a1_1 a1_2 a2_0 a2_1 a2_2 a2_3 t104 _ ?side1 ?side2 ?side3 ?side4 ?side5 ?side6 ?side7 ?side8 A5.out).mono ?_); (case side1 => exact F12_); (case side2 => exact HC0_0.out); (case side3 => exact F13_); (case side4 => exact HC0_1.out); (case side5 => exact F14_); (case side6 => exact HC0_2.out); (case side7 => exact F15_); (case side8 => exact HC1_0.out); rintro e w27 ⟨v105, rfl, ho0, hb⟩; refine ⟨_, rfl, ?_⟩; have n0_ := Aside0.mk (Kd.R_lower ho0 (below_size F5_)); have n1_ := Aside0.mk (blk_below (g := gb101) (o := .cells #[.slice A0_0 l0_0.length c0_0, .slice A0_1 l0_1.length c0_1, .slice A0_2 l0_2.length c0_2] 96 (0, 0)) F1_ hb); have n2_ := Aside0.mk (blk_below (g := gb102) (o := .cells #[.slice A1_0 l1_0.length c1_0, .int .i64 a1_1, .int .i64 a1_2] 26 (0, 0)) F2_ hb); have n3_ := Aside0.mk (blk_below (g := gb103) (o := .cells #[.int .u64 a2_0, .int .u64 a2_1, .int .u64 a2_2, .int .u64 a2_3] 33 (0, 0)) F4_ hb); have n4_ := Aside0.mk (below_step F5_ hb); clear BK101; clear BK102; clear BK103; clear HB; have HO106 := n0_; have BK101 := n1_; have BK102 := n2_; have BK103 := n3_; have HB := n4_; clear n0_ n1_ n2_ n3_ n4_; (try clear hb); (try clear hb2); (try clear hk); (try clear hi); (try clear ho0); obtain ⟨Ao28, co28, eo28⟩ := Kd.R_slice HO106.out; subst eo28))
  go_loopg [10, 11] k (fun kq v10 v11 w' => ∃ (x10_1 : Int) (x11_1 : Int), v10 = .int .i64 x10_1 ∧ v11 = .int .i64 x11_1 ∧ Aside0 (dunnageref14_One.l0 kq a3 t104 x10_1 x11_1 l0_0 l0_1 l0_2 l1_0 a1_1 a1_2 a2_0 a2_1 a2_2 a2_3 = some r) ∧ Aside0 (kq ≤ k) ∧ Aside0 (Kd.R (Kd.int .i64) 3 w' w.heap.size (fun _ => True) (.slice Ao28 t104.length co28) t104) ∧ Aside0 (w'.heap[gb101]? = some (.cells #[(.slice A0_0 l0_0.length c0_0), (.slice A0_1 l0_1.length c0_1), (.slice A0_2 l0_2.length c0_2)] 96 (0, 0))) ∧ Aside0 (w'.heap[gb102]? = some (.cells #[(.slice A1_0 l1_0.length c1_0), .int .i64 a1_1, .int .i64 a1_2] 26 (0, 0))) ∧ Aside0 (w'.heap[gb103]? = some (.cells #[.int .u64 a2_0, .int .u64 a2_1, .int .u64 a2_2, .int .u64 a2_3] 33 (0, 0))) ∧ Aside0 (Below w.heap.size w w'))
  case atStart => exact ⟨(0), (1), F37_, F37_, H', ⟨Nat.le_refl _⟩, ⟨by (with_reducible repeat (first | apply Kd.R_alloc | apply Kd.R_drewN | apply Kd.R_drew)); exact HO106.out⟩, ⟨F31_⟩, ⟨F32_⟩, ⟨F33_⟩, ⟨F17_⟩⟩
  case round =>
   clear H'
   try clear c1
   try clear c2
   try clear p2
   try clear c6
   try clear c6b0
   try clear c6b1
   try clear c6b2
   try clear c7
   try clear c10
   try clear c11
   try clear c13
   try clear c21
   try clear c22
   try clear c24
   try clear hcz12_0
   try clear hcz12_1
   try clear hcz12_2
   try clear hcz14_0
   try clear hcz14_1
   try clear hcz14_2
   try clear hcz15_0
   try clear hcz15_1
   try clear hcz15_2
   try clear hcz15_3
   try clear hcz23_0
   try clear hcz23_1
   try clear hcz23_2
   try clear hcz25_0
   try clear hcz25_1
   try clear hcz25_2
   try clear hcz26_0
   try clear hcz26_1
   try clear hcz26_2
   try clear hcz26_3
   try clear hfz12_0
   try clear hfz12_1
   try clear hfz12_2
   try clear hfz14_0
   try clear hfz14_1
   try clear hfz14_2
   try clear hfz15_0
   try clear hfz15_1
   try clear hfz15_2
   try clear hfz15_3
   try clear hfz23_0
   try clear hfz23_1
   try clear hfz23_2
   try clear hfz25_0
   try clear hfz25_1
   try clear hfz25_2
   try clear hfz26_0
   try clear hfz26_1
   try clear hfz26_2
   try clear hfz26_3
   obtain ⟨x10_1, x11_1, rfl, rfl, HA, HK1, HO_9, BK101, BK102, BK103, HB⟩ := hrel
   cases gk with
   | zero => exact absurd HA.out (by simp [dunnageref14_One.l0])
   | succ k1 =>
    have H := HA.out
    clear HA
    simp only [dunnageref14_One.l0] at H
    have HC29 := Aside0.mk H
    clear H
    go_upto_region 6 with (fail)
    go_cut [30] (fun v30 wc => ∃ (kq : Nat) (x30_28 : Bool), v30 = .bool x30_28 ∧ Aside0 (dunnageref14_One.j1 kq a3 t104 x10_1 x11_1 x30_28 l0_0 l0_1 l0_2 l1_0 a1_1 a1_2 a2_0 a2_1 a2_2 a2_3 = some r) ∧ Aside0 (kq ≤ k1) ∧ Aside0 (Kd.R (Kd.int .i64) 3 wc w.heap.size (fun _ => True) (.slice Ao28 t104.length co28) t104) ∧ Aside0 (wc.heap[gb101]? = some (.cells #[(.slice A0_0 l0_0.length c0_0), (.slice A0_1 l0_1.length c0_1), (.slice A0_2 l0_2.length c0_2)] 96 (0, 0))) ∧ Aside0 (wc.heap[gb102]? = some (.cells #[(.slice A1_0 l1_0.length c1_0), .int .i64 a1_1, .int .i64 a1_2] 26 (0, 0))) ∧ Aside0 (wc.heap[gb103]? = some (.cells #[.int .u64 a2_0, .int .u64 a2_1, .int .u64 a2_2, .int .u64 a2_3] 33 (0, 0))) ∧ Aside0 (Below w.heap.size w wc))
    case first =>
     have H := HC29.out
     clear HC29
     by_cases c30 : x11_1 < (t104.length : Int)
     ·rw [if_pos c30] at H
      have c30b0 : decide (x11_1 < (t104.length : Int)) = true := decide_eq_true c30
      clear c30
      (first | rw [c30b0] | (simp only [i64_w, i32_w]; rw [c30b0]) | skip)
      have H' := Aside0.mk H
      clear H
      go_wp2
      go_meet
      case rel => exact ⟨_, (a3), F37_, H', ⟨by have := HK1.out; first | omega | exact Nat.le_refl _⟩, ⟨F38_⟩, ⟨F31_⟩, ⟨F32_⟩, ⟨F33_⟩, ⟨F17_⟩⟩
     ·rw [if_neg c30] at H
      have c30b0 : decide (x11_1 < (t104.length : Int)) = false := decide_eq_false c30
      clear c30
      (first | rw [c30b0] | (simp only [i64_w, i32_w]; rw [c30b0]) | skip)
      have H' := Aside0.mk H
      clear H
      go_wp2
      go_meet
      case rel => exact ⟨_, (false), F37_, H', ⟨by have := HK1.out; first | omega | exact Nat.le_refl _⟩, ⟨F38_⟩, ⟨F31_⟩, ⟨F32_⟩, ⟨F33_⟩, ⟨F17_⟩⟩
    case rest =>
     clear HC29
     try clear c1
     try clear c2
     try clear p2
     try clear c3
     try clear c6
     try clear c6b0
     try clear c6b1
     try clear c6b2
     try clear c7
     try clear c10
     try clear c11
     try clear c13
     try clear c21
     try clear c22
     try clear c24
     try clear c30
     try clear c30b0
     try clear hcz12_0
     try clear hcz12_1
     try clear hcz12_2
     try clear hcz14_0
     try clear hcz14_1
     try clear hcz14_2
     try clear hcz15_0
     try clear hcz15_1
     try clear hcz15_2
     try clear hcz15_3
     try clear hcz23_0
     try clear hcz23_1
     try clear hcz23_2
     try clear hcz25_0
     try clear hcz25_1
     try clear hcz25_2
     try clear hcz26_0
     try clear hcz26_1
     try clear hcz26_2
     try clear hcz26_3
     try clear hfz12_0
     try clear hfz12_1
     try clear hfz12_2
     try clear hfz14_0
     try clear hfz14_1
     try clear hfz14_2
     try clear hfz15_0
     try clear hfz15_1
     try clear hfz15_2
     try clear hfz15_3
     try clear hfz23_0
     try clear hfz23_1
     try clear hfz23_2
     try clear hfz25_0
     try clear hfz25_1
     try clear hfz25_2
     try clear hfz26_0
     try clear hfz26_1
     try clear hfz26_2
     try clear hfz26_3
     try clear p2
     obtain ⟨kq, x30_28, rfl, HA, HJ28, HO_9, BK101, BK102, BK103, HB⟩ := hcut
     cases kq with
     | zero => exact absurd HA.out (by simp [dunnageref14_One.j1])
     | succ kj28 =>
      have H := HA.out
      clear HA
      simp only [dunnageref14_One.j1] at H
      by_cases c31 : x30_28 = true
      ·subst c31
       have H1 : (if 0 ≤ x11_1 then (if x11_1 < (t104.length : Int) then ((dunnageref14_Left.f kj28 l0_0 l0_1 l0_2 l1_0 a1_1 a1_2 (rd t104 x11_1) a2_0 a2_1 a2_2 a2_3).bind fun bt109 => (if 0 ≤ x10_1 then (if x10_1 < (t104.length : Int) then ((dunnageref14_Left.f kj28 l0_0 l0_1 l0_2 l1_0 a1_1 a1_2 (rd t104 x10_1) a2_0 a2_1 a2_2 a2_3).bind fun bt116 => ((dunnageref14_Tighter.f bt109.1 bt109.2.1 bt109.2.2.1 bt109.2.2.2.1 bt116.1 bt116.2.1 bt116.2.2.1 bt116.2.2.2.1).bind fun t122 => (if t122 = true then (dunnageref14_One.l0 kj28 a3 t104 x11_1 (wrap64 (x11_1 + 1)) l0_0 l0_1 l0_2 l1_0 a1_1 a1_2 a2_0 a2_1 a2_2 a2_3) else (dunnageref14_One.l0 kj28 a3 t104 x10_1 (wrap64 (x11_1 + 1)) l0_0 l0_1 l0_2 l1_0 a1_1 a1_2 a2_0 a2_1 a2_2 a2_3)))) else (none)) else (none))) else (none)) else (none)) = some r := by rw [if_pos rfl] at H; exact H
       clear H
       have H := H1
       clear H1
       by_cases c32 : 0 ≤ x11_1
       ·rw [if_pos c32] at H
        have c32b0 : decide (0 ≤ x11_1) = true := decide_eq_true c32
        clear c32
        by_cases c33 : x11_1 < (t104.length : Int)
        ·rw [if_pos c33] at H
         have c33b0 : decide (x11_1 < (t104.length : Int)) = true := decide_eq_true c33
         clear c33
         replace H := Option.bind_eq_some_iff.mp H
         obtain ⟨⟨t109, t110, t111, t112, t113⟩, A340, H⟩ := H
         replace H : (if 0 ≤ x10_1 then (if x10_1 < (t104.length : Int) then ((dunnageref14_Left.f kj28 l0_0 l0_1 l0_2 l1_0 a1_1 a1_2 (rd t104 x10_1) a2_0 a2_1 a2_2 a2_3).bind fun bt116 => ((dunnageref14_Tighter.f t109 t110 t111 t112 bt116.1 bt116.2.1 bt116.2.2.1 bt116.2.2.2.1).bind fun t122 => (if t122 = true then (dunnageref14_One.l0 kj28 a3 t104 x11_1 (wrap64 (x11_1 + 1)) l0_0 l0_1 l0_2 l1_0 a1_1 a1_2 a2_0 a2_1 a2_2 a2_3) else (dunnageref14_One.l0 kj28 a3 t104 x10_1 (wrap64 (x11_1 + 1)) l0_0 l0_1 l0_2 l1_0 a1_1 a1_2 a2_0 a2_1 a2_2 a2_3)))) else (none)) else (none)) = some r := H
         have A34 := Aside0.mk A340
         clear A340
         by_cases c35 : 0 ≤ x10_1
         ·rw [if_pos c35] at H
          have c35b0 : decide (0 ≤ x10_1) = true := decide_eq_true c35
          clear c35
          by_cases c36 : x10_1 < (t104.length : Int)
          ·rw [if_pos c36] at H
           have c36b0 : decide (x10_1 < (t104.length : Int)) = true := decide_eq_true c36
           clear c36
           replace H := Option.bind_eq_some_iff.mp H
           obtain ⟨⟨t116, t117, t118, t119, t120⟩, A370, H⟩ := H
           replace H : ((dunnageref14_Tighter.f t109 t110 t111 t112 t116 t117 t118 t119).bind fun t122 => (if t122 = true then (dunnageref14_One.l0 kj28 a3 t104 x11_1 (wrap64 (x11_1 + 1)) l0_0 l0_1 l0_2 l1_0 a1_1 a1_2 a2_0 a2_1 a2_2 a2_3) else (dunnageref14_One.l0 kj28 a3 t104 x10_1 (wrap64 (x11_1 + 1)) l0_0 l0_1 l0_2 l1_0 a1_1 a1_2 a2_0 a2_1 a2_2 a2_3))) = some r := H
           have A37 := Aside0.mk A370
           clear A370
           replace H := Option.bind_eq_some_iff.mp H
           obtain ⟨t122, A380, H⟩ := H
           replace H : (if t122 = true then (dunnageref14_One.l0 kj28 a3 t104 x11_1 (wrap64 (x11_1 + 1)) l0_0 l0_1 l0_2 l1_0 a1_1 a1_2 a2_0 a2_1 a2_2 a2_3) else (dunnageref14_One.l0 kj28 a3 t104 x10_1 (wrap64 (x11_1 + 1)) l0_0 l0_1 l0_2 l1_0 a1_1 a1_2 a2_0 a2_1 a2_2 a2_3)) = some r := H
           have A38 := Aside0.mk A380
           clear A380
           by_cases c39 : t122 = true
           ·subst c39
            have H1 : (dunnageref14_One.l0 kj28 a3 t104 x11_1 (wrap64 (x11_1 + 1)) l0_0 l0_1 l0_2 l1_0 a1_1 a1_2 a2_0 a2_1 a2_2 a2_3) = some r := by rw [if_pos rfl] at H; exact H
            clear H
            have H := H1
            clear H1
            have H' := Aside0.mk H
            clear H
            try go_wp2
            have n0_ := Aside0.mk (Kd.R_drew HO_9.out)
            have n1_ := Aside0.mk (blk_drew BK101.out)
            have n2_ := Aside0.mk (blk_drew BK102.out)
            have n3_ := Aside0.mk (blk_drew BK103.out)
            have n4_ := Aside0.mk (below_drew1 HB.out)
            clear HO_9
            clear BK101
            clear BK102
            clear BK103
            clear HB
            have HO_9 := n0_
            have BK101 := n1_
            have BK102 := n2_
            have BK103 := n3_
            have HB := n4_
            clear n0_ n1_ n2_ n3_ n4_
            have p108 : 0 ≤ (x11_1 : Int) := of_decide_eq_true F34_
            have q108 : x11_1 < (t104.length : Int) := of_decide_eq_true F34_
            obtain ⟨ad108, e108, hx108_0⟩ := Kd.at_int (Kd.R_reads' HO_9.out).2.2 x11_1 p108 q108
            cases e108
            replace p108 := eq_true p108
            replace q108 := eq_true q108
            refine start_ (n := 14) (S := fun w' => w'.cell? ⟨gb101, 0, none⟩ = some (.slice A0_0 l0_0.length c0_0) ∧ w'.cell? ⟨gb101, 1, none⟩ = some (.slice A0_1 l0_1.length c0_1) ∧ w'.cell? ⟨gb101, 2, none⟩ = some (.slice A0_2 l0_2.length c0_2) ∧ w'.cell? ⟨gb102, 0, none⟩ = some (.slice A1_0 l1_0.length c1_0) ∧ w'.cell? ⟨gb102, 1, none⟩ = some (.int .i64 a1_1) ∧ w'.cell? ⟨gb102, 2, none⟩ = some (.int .i64 a1_2) ∧ w'.cell? ⟨gb103, 0, none⟩ = some (.int .u64 a2_0) ∧ w'.cell? ⟨gb103, 1, none⟩ = some (.int .u64 a2_1) ∧ w'.cell? ⟨gb103, 2, none⟩ = some (.int .u64 a2_2) ∧ w'.cell? ⟨gb103, 3, none⟩ = some (.int .u64 a2_3) ∧ w'.cell? (ad108.add (x11_1).toNat) = some (.int .i64 (rd t104 x11_1))) (ds := []) #[false, false, false, false, false, false, false, false, false, false, false, false, false, false] (by kernel_rfl) rfl rfl ⟨(blk_cell BK101.out 0).trans rfl, (blk_cell BK101.out 1).trans rfl, (blk_cell BK101.out 2).trans rfl, (blk_cell BK102.out 0).trans rfl, (blk_cell BK102.out 1).trans rfl, (blk_cell BK102.out 2).trans rfl, (blk_cell BK103.out 0).trans rfl, (blk_cell BK103.out 1).trans rfl, (blk_cell BK103.out 2).trans rfl, (blk_cell BK103.out 3).trans rfl, hx108_0⟩ (fun hHeld => ?_); refine with_tabW dunnageref14_One.tab8 dunnageref14_One.bits8 (fun HT_ HW_ => ?_)
            generalize wc.drew = w40 at HO_9 BK101 BK102 BK103 HB hx108_0 hHeld ⊢
            refine pure_ (i := 2) (N := some 36) (v := ?_) (a' := ?_) #[false, false, true, false, false, false, false, false, false, false, false, false, false, false] rfl rfl (any_of HT_.out (by kernel_rfl)) (fun _ _ _ h => h) (Or.inl ⟨by rfl, ?_⟩) ?_ ?_
            rotate_left
            ·intro w'
             go_simp
             with_reducible rfl
            rotate_left
            ·simp only [Act.put, List.setIfInBounds_toArray, List.set_cons_zero, List.set_cons_succ, i64_w, i32_w]
             rfl
            refine pure_ (i := 3) (N := some 37) (v := ?_) (a' := ?_) #[false, false, true, true, false, false, false, false, false, false, false, false, false, false] rfl rfl (any_of HT_.out (by kernel_rfl)) (fun _ _ _ h => h) (Or.inl ⟨by rfl, ?_⟩) ?_ ?_
            rotate_left
            ·intro w'
             go_simp
             with_reducible rfl
            rotate_left
            ·simp only [Act.put, List.setIfInBounds_toArray, List.set_cons_zero, List.set_cons_succ, i64_w, i32_w]
             rfl
            refine pure_ (i := 4) (N := some 38) (v := ?_) (a' := ?_) #[false, false, true, true, true, false, false, false, false, false, false, false, false, false] rfl rfl (any_of HT_.out (by kernel_rfl)) (fun _ _ _ h => h) (Or.inl ⟨by rfl, ?_⟩) ?_ ?_
            rotate_left
            ·intro w'
             go_simp
             with_reducible rfl
            rotate_left
            ·simp only [Act.put, List.setIfInBounds_toArray, List.set_cons_zero, List.set_cons_succ, i64_w, i32_w]
             rfl
            refine take_ (i := 0) (N := some 34) (v := ?_) (a' := ?_) #[true, false, true, true, true, false, false, false, false, false, false, false, false, false] rfl rfl (take_ofW HT_.out HW_.out (by kernel_rfl)) (fun _ _ _ h => h) (Or.inl ⟨by rfl, ?_⟩) hHeld ?_ ?_
            rotate_left
            ·rintro w' ⟨s0, s1, s2, s3, s4, s5, s6, s7, s8, s9, s10⟩
             go_simp
             with_reducible rfl
            rotate_left
            ·simp only [Act.put, List.setIfInBounds_toArray, List.set_cons_zero, List.set_cons_succ, i64_w, i32_w]
             rfl
            refine take_ (i := 1) (N := some 35) (v := ?_) (a' := ?_) #[true, true, true, true, true, false, false, false, false, false, false, false, false, false] rfl rfl (take_ofW HT_.out HW_.out (by kernel_rfl)) (fun _ _ _ h => h) (Or.inl ⟨by rfl, ?_⟩) hHeld ?_ ?_
            rotate_left
            ·rintro w' ⟨s0, s1, s2, s3, s4, s5, s6, s7, s8, s9, s10⟩
             go_simp
             with_reducible rfl
            rotate_left
            ·simp only [Act.put, List.setIfInBounds_toArray, List.set_cons_zero, List.set_cons_succ, i64_w, i32_w]
             rfl
            refine take_ (i := 5) (N := some 39) (v := ?_) (a' := ?_) #[true, true, true, true, true, true, false, false, false, false, false, false, false, false] rfl rfl (take_ofW HT_.out HW_.out (by kernel_rfl)) (fun _ _ _ h => h) (Or.inl ⟨by rfl, ?_⟩) hHeld ?_ ?_
            rotate_left
            ·rintro w' ⟨s0, s1, s2, s3, s4, s5, s6, s7, s8, s9, s10⟩
             go_simp
             with_reducible rfl
            rotate_left
            ·simp only [Act.put, List.setIfInBounds_toArray, List.set_cons_zero, List.set_cons_succ, i64_w, i32_w]
             rfl
            refine take_ (i := 6) (N := some 40) (v := ?_) (a' := ?_) #[true, true, true, true, true, true, true, false, false, false, false, false, false, false] rfl rfl (take_ofW HT_.out HW_.out (by kernel_rfl)) (fun _ _ _ h => h) (Or.inl ⟨by rfl, ?_⟩) hHeld ?_ ?_
            rotate_left
            ·rintro w' ⟨s0, s1, s2, s3, s4, s5, s6, s7, s8, s9, s10⟩
             go_simp
             with_reducible rfl
            rotate_left
            ·simp only [Act.put, List.setIfInBounds_toArray, List.set_cons_zero, List.set_cons_succ, i64_w, i32_w]
             rfl
            refine join_ (σ := Nat) 2 #[true, true, true, true, true, true, true, true, true, true, true, true, false, false] (fun s_ => [(41, .tuple #[.agg #[.int .u64 t109, .int .u64 t110, .int .u64 t111, .int .u64 t112], .bool t113]), (12, .pointer (some ⟨s_, 0, none⟩)), (33, .tuple #[.agg #[.int .u64 t109, .int .u64 t110, .int .u64 t111, .int .u64 t112], .bool t113]), (42, .agg #[.int .u64 t109, .int .u64 t110, .int .u64 t111, .int .u64 t112]), (43, .bool t113)]) (fun s_ w' => (w'.cell? ⟨gb101, 0, none⟩ = some (.slice A0_0 l0_0.length c0_0) ∧ w'.cell? ⟨gb101, 1, none⟩ = some (.slice A0_1 l0_1.length c0_1) ∧ w'.cell? ⟨gb101, 2, none⟩ = some (.slice A0_2 l0_2.length c0_2) ∧ w'.cell? ⟨gb102, 0, none⟩ = some (.slice A1_0 l1_0.length c1_0) ∧ w'.cell? ⟨gb102, 1, none⟩ = some (.int .i64 a1_1) ∧ w'.cell? ⟨gb102, 2, none⟩ = some (.int .i64 a1_2) ∧ w'.cell? ⟨gb103, 0, none⟩ = some (.int .u64 a2_0) ∧ w'.cell? ⟨gb103, 1, none⟩ = some (.int .u64 a2_1) ∧ w'.cell? ⟨gb103, 2, none⟩ = some (.int .u64 a2_2) ∧ w'.cell? ⟨gb103, 3, none⟩ = some (.int .u64 a2_3) ∧ w'.cell? (ad108.add (x11_1).toNat) = some (.int .i64 (rd t104 x11_1))) ∧ (Kd.R (Kd.int .i64) 3 w' w.heap.size (fun _ => True) (.slice (some ad108) t104.length co28) t104) ∧ (w'.heap[gb101]? = some (.cells #[.slice A0_0 l0_0.length c0_0, .slice A0_1 l0_1.length c0_1, .slice A0_2 l0_2.length c0_2] 96 (0, 0))) ∧ (w'.heap[gb102]? = some (.cells #[.slice A1_0 l1_0.length c1_0, .int .i64 a1_1, .int .i64 a1_2] 26 (0, 0))) ∧ (w'.heap[gb103]? = some (.cells #[.int .u64 a2_0, .int .u64 a2_1, .int .u64 a2_2, .int .u64 a2_3] 33 (0, 0))) ∧ (w'.heap[s_]? = some (.cells #[.int .u64 0, .int .u64 0, .int .u64 0, .int .u64 0] 33 (0, 0))) ∧ (w.heap.size ≤ s_) ∧ (w.heap.size ≤ s_) ∧ (gb101 ≠ s_) ∧ (s_ ≠ gb101) ∧ (gb102 ≠ s_) ∧ (s_ ≠ gb102) ∧ (gb103 ≠ s_) ∧ (s_ ≠ gb103) ∧ (Below w.heap.size w w')) ?_ ?_
            rotate_left
            ·intro hCont
             refine two_ (i := 7) (j := 11) (Ni := some 41) (Nj := some 12) #[true, true, true, true, true, true, true, true, false, false, false, false, false, false] #[true, true, true, true, true, true, true, false, false, false, false, true, false, false] rfl rfl rfl rfl (two_of HT_.out (by kernel_rfl)) (by decide) (by decide) (fun K hK => ?_) (fun K hK => ?_)
             ·skip
              refine goes_ Try.func115 (by kernel_rfl) rfl #[.agg #[.slice A0_0 l0_0.length c0_0, .slice A0_1 l0_1.length c0_1, .slice A0_2 l0_2.length c0_2], .agg #[.slice A1_0 l1_0.length c1_0, .int .i64 a1_1, .int .i64 a1_2], .int .i64 (rd t104 x11_1), .agg #[.int .u64 a2_0, .int .u64 a2_1, .int .u64 a2_2, .int .u64 a2_3]] (by rfl) rfl rfl F11_ ?_
              with_reducible refine (dunnageref14_Left.calls kj28 _ _ l0_0 _ _ l0_1 _ _ l0_2 _ _ l1_0 a1_1 a1_2 (rd t104 x11_1) a2_0 a2_1 a2_2 a2_3 t109 t110 t111 t112 t113 _ ?side1 ?side2 ?side3 ?side4 ?side5 ?side6 ?side7 ?side8 A34.out).mono ?_
              (case side1 => exact F12_)
              (case side2 => exact HC0_0.out)
              (case side3 => exact F13_)
              (case side4 => exact HC0_1.out)
              (case side5 => exact F14_)
              (case side6 => exact HC0_2.out)
              (case side7 => exact F15_)
              (case side8 => exact HC1_0.out)
              rintro e w41 ⟨rfl, hb⟩
              have HS10_ := (hb.cell (World.block_lt_of_cell? _ _ (hHeld.2.2.2.2.2.2.2.2.2.2))).trans (hHeld.2.2.2.2.2.2.2.2.2.2)
              refine ⟨_, rfl, ?_⟩
              have n0_ := Aside0.mk (Kd.R_below F7_ hb)
              have n1_ := Aside0.mk (blk_below (g := gb101) (o := .cells #[.slice A0_0 l0_0.length c0_0, .slice A0_1 l0_1.length c0_1, .slice A0_2 l0_2.length c0_2] 96 (0, 0)) F1_ hb)
              have n2_ := Aside0.mk (blk_below (g := gb102) (o := .cells #[.slice A1_0 l1_0.length c1_0, .int .i64 a1_1, .int .i64 a1_2] 26 (0, 0)) F2_ hb)
              have n3_ := Aside0.mk (blk_below (g := gb103) (o := .cells #[.int .u64 a2_0, .int .u64 a2_1, .int .u64 a2_2, .int .u64 a2_3] 33 (0, 0)) F4_ hb)
              have n4_ := Aside0.mk (below_step F5_ hb)
              clear HO_9
              clear BK101
              clear BK102
              clear BK103
              clear HB
              have HO_9 := n0_
              have BK101 := n1_
              have BK102 := n2_
              have BK103 := n3_
              have HB := n4_
              clear n0_ n1_ n2_ n3_ n4_
              (try clear hb)
              (try clear hb2)
              (try clear hk)
              (try clear hi)
              refine hK.out _ _ ⟨(blk_cell BK101.out 0).trans rfl, (blk_cell BK101.out 1).trans rfl, (blk_cell BK101.out 2).trans rfl, (blk_cell BK102.out 0).trans rfl, (blk_cell BK102.out 1).trans rfl, (blk_cell BK102.out 2).trans rfl, (blk_cell BK103.out 0).trans rfl, (blk_cell BK103.out 1).trans rfl, (blk_cell BK103.out 2).trans rfl, (blk_cell BK103.out 3).trans rfl, HS10_⟩ (fun hHeld => ?_)
              clear hK K
              refine norm_ (a' := ?_) ?_ ?_
              rotate_left
              ·show Act.put _ (some 41) _ = _
               simp only [Act.put, List.setIfInBounds_toArray, List.set_cons_zero, List.set_cons_succ, i64_w, i32_w]
               rfl
              refine pure_ (i := 8) (N := some 33) (v := ?_) (a' := ?_) #[true, true, true, true, true, true, true, true, true, false, false, false, false, false] rfl rfl (any_of HT_.out (by kernel_rfl)) (fun _ _ _ h => h) (Or.inl ⟨by rfl, ?_⟩) ?_ ?_
              rotate_left
              ·intro w'
               go_simp
               with_reducible rfl
              rotate_left
              ·simp only [Act.put, List.setIfInBounds_toArray, List.set_cons_zero, List.set_cons_succ, i64_w, i32_w]
               rfl
              refine pure_ (i := 9) (N := some 42) (v := ?_) (a' := ?_) #[true, true, true, true, true, true, true, true, true, true, false, false, false, false] rfl rfl (any_of HT_.out (by kernel_rfl)) (fun _ _ _ h => h) (Or.inl ⟨by rfl, ?_⟩) ?_ ?_
              rotate_left
              ·intro w'
               go_simp
               with_reducible rfl
              rotate_left
              ·simp only [Act.put, List.setIfInBounds_toArray, List.set_cons_zero, List.set_cons_succ, i64_w, i32_w]
               rfl
              refine pure_ (i := 10) (N := some 43) (v := ?_) (a' := ?_) #[true, true, true, true, true, true, true, true, true, true, true, false, false, false] rfl rfl (any_of HT_.out (by kernel_rfl)) (fun _ _ _ h => h) (Or.inl ⟨by rfl, ?_⟩) ?_ ?_
              rotate_left
              ·intro w'
               go_simp
               with_reducible rfl
              rotate_left
              ·simp only [Act.put, List.setIfInBounds_toArray, List.set_cons_zero, List.set_cons_succ, i64_w, i32_w]
               rfl
              refine one_ (i := 11) (N := some 12) #[true, true, true, true, true, true, true, true, true, true, true, true, false, false] rfl rfl (one_of HT_.out (by kernel_rfl)) (by decide) (fun K hK => ?_)
              refine box_step ?hg (N := 12) ?hd (cs := #[.int .u64 0, .int .u64 0, .int .u64 0, .int .u64 0]) (t := 33) ?hr ?_; (case hd => rfl); (case hg => rfl); (case hr => first | (go_simp; done) | (go_simp; rfl))
              intro gb114 hg w42 hbox hb
              have HS10_ := (hb.cell (World.block_lt_of_cell? _ _ (hHeld.2.2.2.2.2.2.2.2.2.2))).trans (hHeld.2.2.2.2.2.2.2.2.2.2)
              have n0_ := Aside0.mk (Kd.R_below F7_ hb)
              have n1_ := Aside0.mk (blk_below (g := gb101) (o := .cells #[.slice A0_0 l0_0.length c0_0, .slice A0_1 l0_1.length c0_1, .slice A0_2 l0_2.length c0_2] 96 (0, 0)) F1_ hb)
              have n2_ := Aside0.mk (blk_below (g := gb102) (o := .cells #[.slice A1_0 l1_0.length c1_0, .int .i64 a1_1, .int .i64 a1_2] 26 (0, 0)) F2_ hb)
              have n3_ := Aside0.mk (blk_below (g := gb103) (o := .cells #[.int .u64 a2_0, .int .u64 a2_1, .int .u64 a2_2, .int .u64 a2_3] 33 (0, 0)) F4_ hb)
              have n4_ := Aside0.mk (below_step F5_ hb)
              have n5_ := Aside0.mk (hbox)
              have n6_ := Aside0.mk ((by rw [hg]; exact (below_size F5_) : w.heap.size ≤ gb114))
              have n7_ := Aside0.mk ((by rw [hg]; exact (below_size F5_) : w.heap.size ≤ gb114))
              have n8_ := Aside0.mk ((by rw [hg]; exact Nat.ne_of_lt (blk_lt (g := gb101) (o := .cells #[.slice A0_0 l0_0.length c0_0, .slice A0_1 l0_1.length c0_1, .slice A0_2 l0_2.length c0_2] 96 (0, 0)) F1_) : gb101 ≠ gb114))
              have n9_ := Aside0.mk ((by rw [hg]; exact Nat.ne_of_gt (blk_lt (g := gb101) (o := .cells #[.slice A0_0 l0_0.length c0_0, .slice A0_1 l0_1.length c0_1, .slice A0_2 l0_2.length c0_2] 96 (0, 0)) F1_) : gb114 ≠ gb101))
              have n10_ := Aside0.mk ((by rw [hg]; exact Nat.ne_of_lt (blk_lt (g := gb102) (o := .cells #[.slice A1_0 l1_0.length c1_0, .int .i64 a1_1, .int .i64 a1_2] 26 (0, 0)) F2_) : gb102 ≠ gb114))
              have n11_ := Aside0.mk ((by rw [hg]; exact Nat.ne_of_gt (blk_lt (g := gb102) (o := .cells #[.slice A1_0 l1_0.length c1_0, .int .i64 a1_1, .int .i64 a1_2] 26 (0, 0)) F2_) : gb114 ≠ gb102))
              have n12_ := Aside0.mk ((by rw [hg]; exact Nat.ne_of_lt (blk_lt (g := gb103) (o := .cells #[.int .u64 a2_0, .int .u64 a2_1, .int .u64 a2_2, .int .u64 a2_3] 33 (0, 0)) F4_) : gb103 ≠ gb114))
              have n13_ := Aside0.mk ((by rw [hg]; exact Nat.ne_of_gt (blk_lt (g := gb103) (o := .cells #[.int .u64 a2_0, .int .u64 a2_1, .int .u64 a2_2, .int .u64 a2_3] 33 (0, 0)) F4_) : gb114 ≠ gb103))
              clear HO_9
              clear BK101
              clear BK102
              clear BK103
              clear HB
              have HO_9 := n0_
              have BK101 := n1_
              have BK102 := n2_
              have BK103 := n3_
              have HB := n4_
              have BK114 := n5_
              have GW114 := n6_
              have GE114 := n7_
              have NB101_114 := n8_
              have NB114_101 := n9_
              have NB102_114 := n10_
              have NB114_102 := n11_
              have NB103_114 := n12_
              have NB114_103 := n13_
              clear n0_ n1_ n2_ n3_ n4_ n5_ n6_ n7_ n8_ n9_ n10_ n11_ n12_ n13_
              clear hb hbox hg
              refine hK.out _ _ ⟨(blk_cell BK101.out 0).trans rfl, (blk_cell BK101.out 1).trans rfl, (blk_cell BK101.out 2).trans rfl, (blk_cell BK102.out 0).trans rfl, (blk_cell BK102.out 1).trans rfl, (blk_cell BK102.out 2).trans rfl, (blk_cell BK103.out 0).trans rfl, (blk_cell BK103.out 1).trans rfl, (blk_cell BK103.out 2).trans rfl, (blk_cell BK103.out 3).trans rfl, HS10_⟩ (fun hHeld => ?_)
              clear hK K
              refine norm_ (a' := ?_) ?_ ?_
              rotate_left
              ·show Act.put _ (some 12) _ = _
               simp only [Act.put, List.setIfInBounds_toArray, List.set_cons_zero, List.set_cons_succ, i64_w, i32_w]
               rfl
              exact norm_ F21_ (hCont (gb114) _ ⟨hHeld, F7_, F1_, F2_, F4_, F6_, GW114.out, GE114.out, NB101_114.out, NB114_101.out, NB102_114.out, NB114_102.out, NB103_114.out, NB114_103.out, F3_⟩)
             ·skip
              refine box_step ?hg (N := 12) ?hd (cs := #[.int .u64 0, .int .u64 0, .int .u64 0, .int .u64 0]) (t := 33) ?hr ?_; (case hd => rfl); (case hg => rfl); (case hr => first | (go_simp; done) | (go_simp; rfl))
              intro gb114 hg w41 hbox hb
              have HS10_ := (hb.cell (World.block_lt_of_cell? _ _ (hHeld.2.2.2.2.2.2.2.2.2.2))).trans (hHeld.2.2.2.2.2.2.2.2.2.2)
              have n0_ := Aside0.mk (Kd.R_below F7_ hb)
              have n1_ := Aside0.mk (blk_below (g := gb101) (o := .cells #[.slice A0_0 l0_0.length c0_0, .slice A0_1 l0_1.length c0_1, .slice A0_2 l0_2.length c0_2] 96 (0, 0)) F1_ hb)
              have n2_ := Aside0.mk (blk_below (g := gb102) (o := .cells #[.slice A1_0 l1_0.length c1_0, .int .i64 a1_1, .int .i64 a1_2] 26 (0, 0)) F2_ hb)
              have n3_ := Aside0.mk (blk_below (g := gb103) (o := .cells #[.int .u64 a2_0, .int .u64 a2_1, .int .u64 a2_2, .int .u64 a2_3] 33 (0, 0)) F4_ hb)
              have n4_ := Aside0.mk (below_step F5_ hb)
              have n5_ := Aside0.mk (hbox)
              have n6_ := Aside0.mk ((by rw [hg]; exact (below_size F5_) : w.heap.size ≤ gb114))
              have n7_ := Aside0.mk ((by rw [hg]; exact (below_size F5_) : w.heap.size ≤ gb114))
              have n8_ := Aside0.mk ((by rw [hg]; exact Nat.ne_of_lt (blk_lt (g := gb101) (o := .cells #[.slice A0_0 l0_0.length c0_0, .slice A0_1 l0_1.length c0_1, .slice A0_2 l0_2.length c0_2] 96 (0, 0)) F1_) : gb101 ≠ gb114))
              have n9_ := Aside0.mk ((by rw [hg]; exact Nat.ne_of_gt (blk_lt (g := gb101) (o := .cells #[.slice A0_0 l0_0.length c0_0, .slice A0_1 l0_1.length c0_1, .slice A0_2 l0_2.length c0_2] 96 (0, 0)) F1_) : gb114 ≠ gb101))
              have n10_ := Aside0.mk ((by rw [hg]; exact Nat.ne_of_lt (blk_lt (g := gb102) (o := .cells #[.slice A1_0 l1_0.length c1_0, .int .i64 a1_1, .int .i64 a1_2] 26 (0, 0)) F2_) : gb102 ≠ gb114))
              have n11_ := Aside0.mk ((by rw [hg]; exact Nat.ne_of_gt (blk_lt (g := gb102) (o := .cells #[.slice A1_0 l1_0.length c1_0, .int .i64 a1_1, .int .i64 a1_2] 26 (0, 0)) F2_) : gb114 ≠ gb102))
              have n12_ := Aside0.mk ((by rw [hg]; exact Nat.ne_of_lt (blk_lt (g := gb103) (o := .cells #[.int .u64 a2_0, .int .u64 a2_1, .int .u64 a2_2, .int .u64 a2_3] 33 (0, 0)) F4_) : gb103 ≠ gb114))
              have n13_ := Aside0.mk ((by rw [hg]; exact Nat.ne_of_gt (blk_lt (g := gb103) (o := .cells #[.int .u64 a2_0, .int .u64 a2_1, .int .u64 a2_2, .int .u64 a2_3] 33 (0, 0)) F4_) : gb114 ≠ gb103))
              clear HO_9
              clear BK101
              clear BK102
              clear BK103
              clear HB
              have HO_9 := n0_
              have BK101 := n1_
              have BK102 := n2_
              have BK103 := n3_
              have HB := n4_
              have BK114 := n5_
              have GW114 := n6_
              have GE114 := n7_
              have NB101_114 := n8_
              have NB114_101 := n9_
              have NB102_114 := n10_
              have NB114_102 := n11_
              have NB103_114 := n12_
              have NB114_103 := n13_
              clear n0_ n1_ n2_ n3_ n4_ n5_ n6_ n7_ n8_ n9_ n10_ n11_ n12_ n13_
              clear hb hbox hg
              refine hK.out _ _ ⟨(blk_cell BK101.out 0).trans rfl, (blk_cell BK101.out 1).trans rfl, (blk_cell BK101.out 2).trans rfl, (blk_cell BK102.out 0).trans rfl, (blk_cell BK102.out 1).trans rfl, (blk_cell BK102.out 2).trans rfl, (blk_cell BK103.out 0).trans rfl, (blk_cell BK103.out 1).trans rfl, (blk_cell BK103.out 2).trans rfl, (blk_cell BK103.out 3).trans rfl, HS10_⟩ (fun hHeld => ?_)
              clear hK K
              refine norm_ (a' := ?_) ?_ ?_
              rotate_left
              ·show Act.put _ (some 12) _ = _
               simp only [Act.put, List.setIfInBounds_toArray, List.set_cons_zero, List.set_cons_succ, i64_w, i32_w]
               rfl
              refine one_ (i := 7) (N := some 41) #[true, true, true, true, true, true, true, true, false, false, false, true, false, false] rfl rfl (one_of HT_.out (by kernel_rfl)) (by decide) (fun K hK => ?_)
              refine goes_ Try.func115 (by kernel_rfl) rfl #[.agg #[.slice A0_0 l0_0.length c0_0, .slice A0_1 l0_1.length c0_1, .slice A0_2 l0_2.length c0_2], .agg #[.slice A1_0 l1_0.length c1_0, .int .i64 a1_1, .int .i64 a1_2], .int .i64 (rd t104 x11_1), .agg #[.int .u64 a2_0, .int .u64 a2_1, .int .u64 a2_2, .int .u64 a2_3]] (by rfl) rfl rfl F11_ ?_
              with_reducible refine (dunnageref14_Left.calls kj28 _ _ l0_0 _ _ l0_1 _ _ l0_2 _ _ l1_0 a1_1 a1_2 (rd t104 x11_1) a2_0 a2_1 a2_2 a2_3 t109 t110 t111 t112 t113 _ ?side1 ?side2 ?side3 ?side4 ?side5 ?side6 ?side7 ?side8 A34.out).mono ?_
              (case side1 => exact F12_)
              (case side2 => exact HC0_0.out)
              (case side3 => exact F13_)
              (case side4 => exact HC0_1.out)
              (case side5 => exact F14_)
              (case side6 => exact HC0_2.out)
              (case side7 => exact F15_)
              (case side8 => exact HC1_0.out)
              rintro e w42 ⟨rfl, hb⟩
              have HS10_ := (hb.cell (World.block_lt_of_cell? _ _ (hHeld.2.2.2.2.2.2.2.2.2.2))).trans (hHeld.2.2.2.2.2.2.2.2.2.2)
              refine ⟨_, rfl, ?_⟩
              have n0_ := Aside0.mk (Kd.R_below F7_ hb)
              have n1_ := Aside0.mk (blk_below (g := gb101) (o := .cells #[.slice A0_0 l0_0.length c0_0, .slice A0_1 l0_1.length c0_1, .slice A0_2 l0_2.length c0_2] 96 (0, 0)) F1_ hb)
              have n2_ := Aside0.mk (blk_below (g := gb102) (o := .cells #[.slice A1_0 l1_0.length c1_0, .int .i64 a1_1, .int .i64 a1_2] 26 (0, 0)) F2_ hb)
              have n3_ := Aside0.mk (blk_below (g := gb103) (o := .cells #[.int .u64 a2_0, .int .u64 a2_1, .int .u64 a2_2, .int .u64 a2_3] 33 (0, 0)) F4_ hb)
              have n4_ := Aside0.mk (blk_below (g := gb114) (o := .cells #[.int .u64 0, .int .u64 0, .int .u64 0, .int .u64 0] 33 (0, 0)) F6_ hb)
              have n5_ := Aside0.mk (below_step F3_ hb)
              clear HO_9
              clear BK101
              clear BK102
              clear BK103
              clear BK114
              clear HB
              have HO_9 := n0_
              have BK101 := n1_
              have BK102 := n2_
              have BK103 := n3_
              have BK114 := n4_
              have HB := n5_
              clear n0_ n1_ n2_ n3_ n4_ n5_
              (try clear hb)
              (try clear hb2)
              (try clear hk)
              (try clear hi)
              refine hK.out _ _ ⟨(blk_cell BK101.out 0).trans rfl, (blk_cell BK101.out 1).trans rfl, (blk_cell BK101.out 2).trans rfl, (blk_cell BK102.out 0).trans rfl, (blk_cell BK102.out 1).trans rfl, (blk_cell BK102.out 2).trans rfl, (blk_cell BK103.out 0).trans rfl, (blk_cell BK103.out 1).trans rfl, (blk_cell BK103.out 2).trans rfl, (blk_cell BK103.out 3).trans rfl, HS10_⟩ (fun hHeld => ?_)
              clear hK K
              refine norm_ (a' := ?_) ?_ ?_
              rotate_left
              ·show Act.put _ (some 41) _ = _
               simp only [Act.put, List.setIfInBounds_toArray, List.set_cons_zero, List.set_cons_succ, i64_w, i32_w]
               rfl
              refine pure_ (i := 8) (N := some 33) (v := ?_) (a' := ?_) #[true, true, true, true, true, true, true, true, true, false, false, true, false, false] rfl rfl (any_of HT_.out (by kernel_rfl)) (fun _ _ _ h => h) (Or.inl ⟨by rfl, ?_⟩) ?_ ?_
              rotate_left
              ·intro w'
               go_simp
               with_reducible rfl
              rotate_left
              ·simp only [Act.put, List.setIfInBounds_toArray, List.set_cons_zero, List.set_cons_succ, i64_w, i32_w]
               rfl
              refine pure_ (i := 9) (N := some 42) (v := ?_) (a' := ?_) #[true, true, true, true, true, true, true, true, true, true, false, true, false, false] rfl rfl (any_of HT_.out (by kernel_rfl)) (fun _ _ _ h => h) (Or.inl ⟨by rfl, ?_⟩) ?_ ?_
              rotate_left
              ·intro w'
               go_simp
               with_reducible rfl
              rotate_left
              ·simp only [Act.put, List.setIfInBounds_toArray, List.set_cons_zero, List.set_cons_succ, i64_w, i32_w]
               rfl
              refine pure_ (i := 10) (N := some 43) (v := ?_) (a' := ?_) #[true, true, true, true, true, true, true, true, true, true, true, true, false, false] rfl rfl (any_of HT_.out (by kernel_rfl)) (fun _ _ _ h => h) (Or.inl ⟨by rfl, ?_⟩) ?_ ?_
              rotate_left
              ·intro w'
               go_simp
               with_reducible rfl
              rotate_left
              ·simp only [Act.put, List.setIfInBounds_toArray, List.set_cons_zero, List.set_cons_succ, i64_w, i32_w]
               rfl
              exact norm_ F21_ (hCont (gb114) _ ⟨hHeld, F7_, F1_, F2_, F4_, F6_, GW114.out, GE114.out, NB101_114.out, NB114_101.out, NB102_114.out, NB114_102.out, NB103_114.out, NB114_103.out, F3_⟩)
            rintro gb114 w43 ⟨hS_, h0_, h1_, h2_, h3_, h4_, h5_, h6_, h7_, h8_, h9_, h10_, h11_, h12_, h13_⟩
            have n0_ : Aside0 (Kd.R (Kd.int .i64) 3 w43 w.heap.size (fun _ => True) (.slice (some ad108) t104.length co28) t104) := ⟨h0_⟩
            have n1_ : Aside0 (w43.heap[gb101]? = some (.cells #[.slice A0_0 l0_0.length c0_0, .slice A0_1 l0_1.length c0_1, .slice A0_2 l0_2.length c0_2] 96 (0, 0))) := ⟨h1_⟩
            have n2_ : Aside0 (w43.heap[gb102]? = some (.cells #[.slice A1_0 l1_0.length c1_0, .int .i64 a1_1, .int .i64 a1_2] 26 (0, 0))) := ⟨h2_⟩
            have n3_ : Aside0 (w43.heap[gb103]? = some (.cells #[.int .u64 a2_0, .int .u64 a2_1, .int .u64 a2_2, .int .u64 a2_3] 33 (0, 0))) := ⟨h3_⟩
            have n4_ : Aside0 (w43.heap[gb114]? = some (.cells #[.int .u64 0, .int .u64 0, .int .u64 0, .int .u64 0] 33 (0, 0))) := ⟨h4_⟩
            have n5_ : Aside0 (w.heap.size ≤ gb114) := ⟨h5_⟩
            have n6_ : Aside0 (w.heap.size ≤ gb114) := ⟨h6_⟩
            have n7_ : Aside0 (gb101 ≠ gb114) := ⟨h7_⟩
            have n8_ : Aside0 (gb114 ≠ gb101) := ⟨h8_⟩
            have n9_ : Aside0 (gb102 ≠ gb114) := ⟨h9_⟩
            have n10_ : Aside0 (gb114 ≠ gb102) := ⟨h10_⟩
            have n11_ : Aside0 (gb103 ≠ gb114) := ⟨h11_⟩
            have n12_ : Aside0 (gb114 ≠ gb103) := ⟨h12_⟩
            have n13_ : Aside0 (Below w.heap.size w w43) := ⟨h13_⟩
            clear HO_9
            clear BK101
            clear BK102
            clear BK103
            clear HB
            clear h0_ h1_ h2_ h3_ h4_ h5_ h6_ h7_ h8_ h9_ h10_ h11_ h12_ h13_
            have HO_9 := n0_
            have BK101 := n1_
            have BK102 := n2_
            have BK103 := n3_
            have BK114 := n4_
            have GW114 := n5_
            have GE114 := n6_
            have NB101_114 := n7_
            have NB114_101 := n8_
            have NB102_114 := n9_
            have NB114_102 := n10_
            have NB103_114 := n11_
            have NB114_103 := n12_
            have HB := n13_
            clear n0_ n1_ n2_ n3_ n4_ n5_ n6_ n7_ n8_ n9_ n10_ n11_ n12_ n13_
            have hHeld : w43.cell? ⟨gb101, 0, none⟩ = some (.slice A0_0 l0_0.length c0_0) ∧ w43.cell? ⟨gb101, 1, none⟩ = some (.slice A0_1 l0_1.length c0_1) ∧ w43.cell? ⟨gb101, 2, none⟩ = some (.slice A0_2 l0_2.length c0_2) ∧ w43.cell? ⟨gb102, 0, none⟩ = some (.slice A1_0 l1_0.length c1_0) ∧ w43.cell? ⟨gb102, 1, none⟩ = some (.int .i64 a1_1) ∧ w43.cell? ⟨gb102, 2, none⟩ = some (.int .i64 a1_2) ∧ w43.cell? ⟨gb103, 0, none⟩ = some (.int .u64 a2_0) ∧ w43.cell? ⟨gb103, 1, none⟩ = some (.int .u64 a2_1) ∧ w43.cell? ⟨gb103, 2, none⟩ = some (.int .u64 a2_2) ∧ w43.cell? ⟨gb103, 3, none⟩ = some (.int .u64 a2_3) ∧ w43.cell? (ad108.add (x11_1).toNat) = some (.int .i64 (rd t104 x11_1)) := hS_
            refine norm_ (a' := ?_) ?_ ?_
            rotate_left
            ·simp only [putAll, Act.put, List.setIfInBounds_toArray, List.set_cons_zero, List.set_cons_succ]
             rfl
            refine one_ (i := 12) (N := none) #[true, true, true, true, true, true, true, true, true, true, true, true, true, false] rfl rfl (one_of HT_.out (by kernel_rfl)) (by decide) (fun K hK => ?_)
            have hs44 : w43.cell? ⟨gb114, 0, none⟩ = some (.int .u64 0) := (blk_cell BK114.out 0).trans rfl
            have hfs44 := blk_frozen BK114.out 0
            have hns44_0 := NB101_114.out
            have hns44_1 := NB102_114.out
            have hns44_2 := NB103_114.out
            have hms44_0 := NB114_101.out
            have hms44_1 := NB114_102.out
            have hms44_2 := NB114_103.out
            have hs45 : w43.cell? ⟨gb114, 1, none⟩ = some (.int .u64 0) := (blk_cell BK114.out 1).trans rfl
            have hfs45 := blk_frozen BK114.out 1
            have hns45_0 := NB101_114.out
            have hns45_1 := NB102_114.out
            have hns45_2 := NB103_114.out
            have hms45_0 := NB114_101.out
            have hms45_1 := NB114_102.out
            have hms45_2 := NB114_103.out
            have hs46 : w43.cell? ⟨gb114, 2, none⟩ = some (.int .u64 0) := (blk_cell BK114.out 2).trans rfl
            have hfs46 := blk_frozen BK114.out 2
            have hns46_0 := NB101_114.out
            have hns46_1 := NB102_114.out
            have hns46_2 := NB103_114.out
            have hms46_0 := NB114_101.out
            have hms46_1 := NB114_102.out
            have hms46_2 := NB114_103.out
            have hs47 : w43.cell? ⟨gb114, 3, none⟩ = some (.int .u64 0) := (blk_cell BK114.out 3).trans rfl
            have hfs47 := blk_frozen BK114.out 3
            have hns47_0 := NB101_114.out
            have hns47_1 := NB102_114.out
            have hns47_2 := NB103_114.out
            have hms47_0 := NB114_101.out
            have hms47_1 := NB114_102.out
            have hms47_2 := NB114_103.out
            refine skip_ (w1 := ?_) (by rfl) rfl ?_ ?_
            rotate_left
            ·go_simp
             rfl
            refine hK.out _ _ ⟨((cell_far (p := ⟨gb114, _, none⟩) NB101_114.out _).trans (((cell_far (p := ⟨gb114, _, none⟩) NB101_114.out _).trans (((cell_far (p := ⟨gb114, _, none⟩) NB101_114.out _).trans (((cell_far (p := ⟨gb114, _, none⟩) NB101_114.out _).trans (hHeld.1)))))))), ((cell_far (p := ⟨gb114, _, none⟩) NB101_114.out _).trans (((cell_far (p := ⟨gb114, _, none⟩) NB101_114.out _).trans (((cell_far (p := ⟨gb114, _, none⟩) NB101_114.out _).trans (((cell_far (p := ⟨gb114, _, none⟩) NB101_114.out _).trans (hHeld.2.1)))))))), ((cell_far (p := ⟨gb114, _, none⟩) NB101_114.out _).trans (((cell_far (p := ⟨gb114, _, none⟩) NB101_114.out _).trans (((cell_far (p := ⟨gb114, _, none⟩) NB101_114.out _).trans (((cell_far (p := ⟨gb114, _, none⟩) NB101_114.out _).trans (hHeld.2.2.1)))))))), ((cell_far (p := ⟨gb114, _, none⟩) NB102_114.out _).trans (((cell_far (p := ⟨gb114, _, none⟩) NB102_114.out _).trans (((cell_far (p := ⟨gb114, _, none⟩) NB102_114.out _).trans (((cell_far (p := ⟨gb114, _, none⟩) NB102_114.out _).trans (hHeld.2.2.2.1)))))))), ((cell_far (p := ⟨gb114, _, none⟩) NB102_114.out _).trans (((cell_far (p := ⟨gb114, _, none⟩) NB102_114.out _).trans (((cell_far (p := ⟨gb114, _, none⟩) NB102_114.out _).trans (((cell_far (p := ⟨gb114, _, none⟩) NB102_114.out _).trans (hHeld.2.2.2.2.1)))))))), ((cell_far (p := ⟨gb114, _, none⟩) NB102_114.out _).trans (((cell_far (p := ⟨gb114, _, none⟩) NB102_114.out _).trans (((cell_far (p := ⟨gb114, _, none⟩) NB102_114.out _).trans (((cell_far (p := ⟨gb114, _, none⟩) NB102_114.out _).trans (hHeld.2.2.2.2.2.1)))))))), ((cell_far (p := ⟨gb114, _, none⟩) NB103_114.out _).trans (((cell_far (p := ⟨gb114, _, none⟩) NB103_114.out _).trans (((cell_far (p := ⟨gb114, _, none⟩) NB103_114.out _).trans (((cell_far (p := ⟨gb114, _, none⟩) NB103_114.out _).trans (hHeld.2.2.2.2.2.2.1)))))))), ((cell_far (p := ⟨gb114, _, none⟩) NB103_114.out _).trans (((cell_far (p := ⟨gb114, _, none⟩) NB103_114.out _).trans (((cell_far (p := ⟨gb114, _, none⟩) NB103_114.out _).trans (((cell_far (p := ⟨gb114, _, none⟩) NB103_114.out _).trans (hHeld.2.2.2.2.2.2.2.1)))))))), ((cell_far (p := ⟨gb114, _, none⟩) NB103_114.out _).trans (((cell_far (p := ⟨gb114, _, none⟩) NB103_114.out _).trans (((cell_far (p := ⟨gb114, _, none⟩) NB103_114.out _).trans (((cell_far (p := ⟨gb114, _, none⟩) NB103_114.out _).trans (hHeld.2.2.2.2.2.2.2.2.1)))))))), ((cell_far (p := ⟨gb114, _, none⟩) NB103_114.out _).trans (((cell_far (p := ⟨gb114, _, none⟩) NB103_114.out _).trans (((cell_far (p := ⟨gb114, _, none⟩) NB103_114.out _).trans (((cell_far (p := ⟨gb114, _, none⟩) NB103_114.out _).trans (hHeld.2.2.2.2.2.2.2.2.2.1)))))))), ((cell_far (p := ⟨gb114, _, none⟩) F8_ _).trans (((cell_far (p := ⟨gb114, _, none⟩) F8_ _).trans (((cell_far (p := ⟨gb114, _, none⟩) F8_ _).trans (((cell_far (p := ⟨gb114, _, none⟩) F8_ _).trans (hHeld.2.2.2.2.2.2.2.2.2.2))))))))⟩ (fun hHeld => ?_)
            clear hK K
            refine pure_ (i := 13) (N := some 13) (v := ?_) (a' := ?_) #[true, true, true, true, true, true, true, true, true, true, true, true, true, true] rfl rfl (any_of HT_.out (by kernel_rfl)) (fun _ _ _ h => h) (Or.inl ⟨by rfl, ?_⟩) ?_ ?_
            rotate_left
            ·intro w'
             go_simp
             with_reducible rfl
            rotate_left
            ·simp only [Act.put, List.setIfInBounds_toArray, List.set_cons_zero, List.set_cons_succ, i64_w, i32_w]
             rfl
            refine done_ (done_of HT_.out (by kernel_rfl)) ?_
            try go_wp2
            have n0_ : Aside0 (Kd.R (Kd.int .i64) 3 ((((w43.setCell ⟨gb114, 0, none⟩ (.int .u64 t109)).setCell ⟨gb114, 1, none⟩ (.int .u64 t110)).setCell ⟨gb114, 2, none⟩ (.int .u64 t111)).setCell ⟨gb114, 3, none⟩ (.int .u64 t112)) w.heap.size (fun _ => True) (.slice (some ad108) t104.length co28) t104) := ⟨F36_⟩
            have n1_ : Aside0 (((((w43.setCell ⟨gb114, 0, none⟩ (.int .u64 t109)).setCell ⟨gb114, 1, none⟩ (.int .u64 t110)).setCell ⟨gb114, 2, none⟩ (.int .u64 t111)).setCell ⟨gb114, 3, none⟩ (.int .u64 t112)).heap[gb101]? = some (.cells #[.slice A0_0 l0_0.length c0_0, .slice A0_1 l0_1.length c0_1, .slice A0_2 l0_2.length c0_2] 96 (0, 0))) := ⟨F27_⟩
            have n2_ : Aside0 (((((w43.setCell ⟨gb114, 0, none⟩ (.int .u64 t109)).setCell ⟨gb114, 1, none⟩ (.int .u64 t110)).setCell ⟨gb114, 2, none⟩ (.int .u64 t111)).setCell ⟨gb114, 3, none⟩ (.int .u64 t112)).heap[gb102]? = some (.cells #[.slice A1_0 l1_0.length c1_0, .int .i64 a1_1, .int .i64 a1_2] 26 (0, 0))) := ⟨F28_⟩
            have n3_ : Aside0 (((((w43.setCell ⟨gb114, 0, none⟩ (.int .u64 t109)).setCell ⟨gb114, 1, none⟩ (.int .u64 t110)).setCell ⟨gb114, 2, none⟩ (.int .u64 t111)).setCell ⟨gb114, 3, none⟩ (.int .u64 t112)).heap[gb103]? = some (.cells #[.int .u64 a2_0, .int .u64 a2_1, .int .u64 a2_2, .int .u64 a2_3] 33 (0, 0))) := ⟨F29_⟩
            have n4_ : Aside0 (((((w43.setCell ⟨gb114, 0, none⟩ (.int .u64 t109)).setCell ⟨gb114, 1, none⟩ (.int .u64 t110)).setCell ⟨gb114, 2, none⟩ (.int .u64 t111)).setCell ⟨gb114, 3, none⟩ (.int .u64 t112)).heap[gb114]? = some (.cells #[.int .u64 t109, .int .u64 t110, .int .u64 t111, .int .u64 t112] 33 (0, 0))) := ⟨F19_⟩
            have n5_ : Aside0 (Below w.heap.size w ((((w43.setCell ⟨gb114, 0, none⟩ (.int .u64 t109)).setCell ⟨gb114, 1, none⟩ (.int .u64 t110)).setCell ⟨gb114, 2, none⟩ (.int .u64 t111)).setCell ⟨gb114, 3, none⟩ (.int .u64 t112))) := ⟨F40_⟩
            (try clear HO_9)
            (try clear BK101)
            (try clear BK102)
            (try clear BK103)
            (try clear BK114)
            (try clear HB)
            generalize ((((w43.setCell ⟨gb114, 0, none⟩ (.int .u64 t109)).setCell ⟨gb114, 1, none⟩ (.int .u64 t110)).setCell ⟨gb114, 2, none⟩ (.int .u64 t111)).setCell ⟨gb114, 3, none⟩ (.int .u64 t112)) = w48 at n0_ n1_ n2_ n3_ n4_ n5_ ⊢
            have HO_9 := n0_
            have BK101 := n1_
            have BK102 := n2_
            have BK103 := n3_
            have BK114 := n4_
            have HB := n5_
            clear n0_ n1_ n2_ n3_ n4_ n5_
            have n0_ := Aside0.mk (Kd.R_drew HO_9.out)
            have n1_ := Aside0.mk (blk_drew BK101.out)
            have n2_ := Aside0.mk (blk_drew BK102.out)
            have n3_ := Aside0.mk (blk_drew BK103.out)
            have n4_ := Aside0.mk (blk_drew BK114.out)
            have n5_ := Aside0.mk (below_drew1 HB.out)
            clear HO_9
            clear BK101
            clear BK102
            clear BK103
            clear BK114
            clear HB
            have HO_9 := n0_
            have BK101 := n1_
            have BK102 := n2_
            have BK103 := n3_
            have BK114 := n4_
            have HB := n5_
            clear n0_ n1_ n2_ n3_ n4_ n5_
            have p115 : 0 ≤ (x10_1 : Int) := of_decide_eq_true F34_
            have q115 : x10_1 < (t104.length : Int) := of_decide_eq_true F34_
            obtain ⟨ad115, e115, hx115_0⟩ := Kd.at_int (Kd.R_reads' HO_9.out).2.2 x10_1 p115 q115
            obtain rfl : ad108 = ad115 := (by injection e115)
            replace p115 := eq_true p115
            replace q115 := eq_true q115
            refine start_ (n := 14) (S := fun w' => w'.cell? ⟨gb101, 0, none⟩ = some (.slice A0_0 l0_0.length c0_0) ∧ w'.cell? ⟨gb101, 1, none⟩ = some (.slice A0_1 l0_1.length c0_1) ∧ w'.cell? ⟨gb101, 2, none⟩ = some (.slice A0_2 l0_2.length c0_2) ∧ w'.cell? ⟨gb102, 0, none⟩ = some (.slice A1_0 l1_0.length c1_0) ∧ w'.cell? ⟨gb102, 1, none⟩ = some (.int .i64 a1_1) ∧ w'.cell? ⟨gb102, 2, none⟩ = some (.int .i64 a1_2) ∧ w'.cell? ⟨gb103, 0, none⟩ = some (.int .u64 a2_0) ∧ w'.cell? ⟨gb103, 1, none⟩ = some (.int .u64 a2_1) ∧ w'.cell? ⟨gb103, 2, none⟩ = some (.int .u64 a2_2) ∧ w'.cell? ⟨gb103, 3, none⟩ = some (.int .u64 a2_3) ∧ w'.cell? (ad108.add (x10_1).toNat) = some (.int .i64 (rd t104 x10_1))) (ds := []) #[false, false, false, false, false, false, false, false, false, false, false, false, false, false] (by kernel_rfl) rfl rfl ⟨(blk_cell BK101.out 0).trans rfl, (blk_cell BK101.out 1).trans rfl, (blk_cell BK101.out 2).trans rfl, (blk_cell BK102.out 0).trans rfl, (blk_cell BK102.out 1).trans rfl, (blk_cell BK102.out 2).trans rfl, (blk_cell BK103.out 0).trans rfl, (blk_cell BK103.out 1).trans rfl, (blk_cell BK103.out 2).trans rfl, (blk_cell BK103.out 3).trans rfl, hx115_0⟩ (fun hHeld => ?_); refine with_tabW dunnageref14_One.tab9 dunnageref14_One.bits9 (fun HT_ HW_ => ?_)
            generalize w48.drew = w49 at HO_9 BK101 BK102 BK103 BK114 HB hx115_0 hHeld ⊢
            refine pure_ (i := 2) (N := some 47) (v := ?_) (a' := ?_) #[false, false, true, false, false, false, false, false, false, false, false, false, false, false] rfl rfl (any_of HT_.out (by kernel_rfl)) (fun _ _ _ h => h) (Or.inl ⟨by rfl, ?_⟩) ?_ ?_
            rotate_left
            ·intro w'
             go_simp
             with_reducible rfl
            rotate_left
            ·simp only [Act.put, List.setIfInBounds_toArray, List.set_cons_zero, List.set_cons_succ, i64_w, i32_w]
             rfl
            refine pure_ (i := 3) (N := some 48) (v := ?_) (a' := ?_) #[false, false, true, true, false, false, false, false, false, false, false, false, false, false] rfl rfl (any_of HT_.out (by kernel_rfl)) (fun _ _ _ h => h) (Or.inl ⟨by rfl, ?_⟩) ?_ ?_
            rotate_left
            ·intro w'
             go_simp
             with_reducible rfl
            rotate_left
            ·simp only [Act.put, List.setIfInBounds_toArray, List.set_cons_zero, List.set_cons_succ, i64_w, i32_w]
             rfl
            refine pure_ (i := 4) (N := some 49) (v := ?_) (a' := ?_) #[false, false, true, true, true, false, false, false, false, false, false, false, false, false] rfl rfl (any_of HT_.out (by kernel_rfl)) (fun _ _ _ h => h) (Or.inl ⟨by rfl, ?_⟩) ?_ ?_
            rotate_left
            ·intro w'
             go_simp
             with_reducible rfl
            rotate_left
            ·simp only [Act.put, List.setIfInBounds_toArray, List.set_cons_zero, List.set_cons_succ, i64_w, i32_w]
             rfl
            refine take_ (i := 0) (N := some 45) (v := ?_) (a' := ?_) #[true, false, true, true, true, false, false, false, false, false, false, false, false, false] rfl rfl (take_ofW HT_.out HW_.out (by kernel_rfl)) (fun _ _ _ h => h) (Or.inl ⟨by rfl, ?_⟩) hHeld ?_ ?_
            rotate_left
            ·rintro w' ⟨s0, s1, s2, s3, s4, s5, s6, s7, s8, s9, s10⟩
             go_simp
             with_reducible rfl
            rotate_left
            ·simp only [Act.put, List.setIfInBounds_toArray, List.set_cons_zero, List.set_cons_succ, i64_w, i32_w]
             rfl
            refine take_ (i := 1) (N := some 46) (v := ?_) (a' := ?_) #[true, true, true, true, true, false, false, false, false, false, false, false, false, false] rfl rfl (take_ofW HT_.out HW_.out (by kernel_rfl)) (fun _ _ _ h => h) (Or.inl ⟨by rfl, ?_⟩) hHeld ?_ ?_
            rotate_left
            ·rintro w' ⟨s0, s1, s2, s3, s4, s5, s6, s7, s8, s9, s10⟩
             go_simp
             with_reducible rfl
            rotate_left
            ·simp only [Act.put, List.setIfInBounds_toArray, List.set_cons_zero, List.set_cons_succ, i64_w, i32_w]
             rfl
            refine take_ (i := 5) (N := some 50) (v := ?_) (a' := ?_) #[true, true, true, true, true, true, false, false, false, false, false, false, false, false] rfl rfl (take_ofW HT_.out HW_.out (by kernel_rfl)) (fun _ _ _ h => h) (Or.inl ⟨by rfl, ?_⟩) hHeld ?_ ?_
            rotate_left
            ·rintro w' ⟨s0, s1, s2, s3, s4, s5, s6, s7, s8, s9, s10⟩
             go_simp
             with_reducible rfl
            rotate_left
            ·simp only [Act.put, List.setIfInBounds_toArray, List.set_cons_zero, List.set_cons_succ, i64_w, i32_w]
             rfl
            refine take_ (i := 6) (N := some 51) (v := ?_) (a' := ?_) #[true, true, true, true, true, true, true, false, false, false, false, false, false, false] rfl rfl (take_ofW HT_.out HW_.out (by kernel_rfl)) (fun _ _ _ h => h) (Or.inl ⟨by rfl, ?_⟩) hHeld ?_ ?_
            rotate_left
            ·rintro w' ⟨s0, s1, s2, s3, s4, s5, s6, s7, s8, s9, s10⟩
             go_simp
             with_reducible rfl
            rotate_left
            ·simp only [Act.put, List.setIfInBounds_toArray, List.set_cons_zero, List.set_cons_succ, i64_w, i32_w]
             rfl
            refine join_ (σ := Nat) 2 #[true, true, true, true, true, true, true, true, true, true, true, true, false, false] (fun s_ => [(52, .tuple #[.agg #[.int .u64 t116, .int .u64 t117, .int .u64 t118, .int .u64 t119], .bool t120]), (14, .pointer (some ⟨s_, 0, none⟩)), (44, .tuple #[.agg #[.int .u64 t116, .int .u64 t117, .int .u64 t118, .int .u64 t119], .bool t120]), (53, .agg #[.int .u64 t116, .int .u64 t117, .int .u64 t118, .int .u64 t119]), (54, .bool t120)]) (fun s_ w' => (w'.cell? ⟨gb101, 0, none⟩ = some (.slice A0_0 l0_0.length c0_0) ∧ w'.cell? ⟨gb101, 1, none⟩ = some (.slice A0_1 l0_1.length c0_1) ∧ w'.cell? ⟨gb101, 2, none⟩ = some (.slice A0_2 l0_2.length c0_2) ∧ w'.cell? ⟨gb102, 0, none⟩ = some (.slice A1_0 l1_0.length c1_0) ∧ w'.cell? ⟨gb102, 1, none⟩ = some (.int .i64 a1_1) ∧ w'.cell? ⟨gb102, 2, none⟩ = some (.int .i64 a1_2) ∧ w'.cell? ⟨gb103, 0, none⟩ = some (.int .u64 a2_0) ∧ w'.cell? ⟨gb103, 1, none⟩ = some (.int .u64 a2_1) ∧ w'.cell? ⟨gb103, 2, none⟩ = some (.int .u64 a2_2) ∧ w'.cell? ⟨gb103, 3, none⟩ = some (.int .u64 a2_3) ∧ w'.cell? (ad108.add (x10_1).toNat) = some (.int .i64 (rd t104 x10_1))) ∧ (Kd.R (Kd.int .i64) 3 w' w.heap.size (fun _ => True) (.slice (some ad108) t104.length co28) t104) ∧ (w'.heap[gb101]? = some (.cells #[.slice A0_0 l0_0.length c0_0, .slice A0_1 l0_1.length c0_1, .slice A0_2 l0_2.length c0_2] 96 (0, 0))) ∧ (w'.heap[gb102]? = some (.cells #[.slice A1_0 l1_0.length c1_0, .int .i64 a1_1, .int .i64 a1_2] 26 (0, 0))) ∧ (w'.heap[gb103]? = some (.cells #[.int .u64 a2_0, .int .u64 a2_1, .int .u64 a2_2, .int .u64 a2_3] 33 (0, 0))) ∧ (w'.heap[gb114]? = some (.cells #[.int .u64 t109, .int .u64 t110, .int .u64 t111, .int .u64 t112] 33 (0, 0))) ∧ (w'.heap[s_]? = some (.cells #[.int .u64 0, .int .u64 0, .int .u64 0, .int .u64 0] 33 (0, 0))) ∧ (w.heap.size ≤ s_) ∧ (w.heap.size ≤ s_) ∧ (gb101 ≠ s_) ∧ (s_ ≠ gb101) ∧ (gb102 ≠ s_) ∧ (s_ ≠ gb102) ∧ (gb103 ≠ s_) ∧ (s_ ≠ gb103) ∧ (gb114 ≠ s_) ∧ (s_ ≠ gb114) ∧ (Below w.heap.size w w')) ?_ ?_
            rotate_left
            ·intro hCont
             refine two_ (i := 7) (j := 11) (Ni := some 52) (Nj := some 14) #[true, true, true, true, true, true, true, true, false, false, false, false, false, false] #[true, true, true, true, true, true, true, false, false, false, false, true, false, false] rfl rfl rfl rfl (two_of HT_.out (by kernel_rfl)) (by decide) (by decide) (fun K hK => ?_) (fun K hK => ?_)
             ·skip
              refine goes_ Try.func115 (by kernel_rfl) rfl #[.agg #[.slice A0_0 l0_0.length c0_0, .slice A0_1 l0_1.length c0_1, .slice A0_2 l0_2.length c0_2], .agg #[.slice A1_0 l1_0.length c1_0, .int .i64 a1_1, .int .i64 a1_2], .int .i64 (rd t104 x10_1), .agg #[.int .u64 a2_0, .int .u64 a2_1, .int .u64 a2_2, .int .u64 a2_3]] (by rfl) rfl rfl F11_ ?_
              with_reducible refine (dunnageref14_Left.calls kj28 _ _ l0_0 _ _ l0_1 _ _ l0_2 _ _ l1_0 a1_1 a1_2 (rd t104 x10_1) a2_0 a2_1 a2_2 a2_3 t116 t117 t118 t119 t120 _ ?side1 ?side2 ?side3 ?side4 ?side5 ?side6 ?side7 ?side8 A37.out).mono ?_
              (case side1 => exact F12_)
              (case side2 => exact HC0_0.out)
              (case side3 => exact F13_)
              (case side4 => exact HC0_1.out)
              (case side5 => exact F14_)
              (case side6 => exact HC0_2.out)
              (case side7 => exact F15_)
              (case side8 => exact HC1_0.out)
              rintro e w50 ⟨rfl, hb⟩
              have HS10_ := (hb.cell (World.block_lt_of_cell? _ _ (hHeld.2.2.2.2.2.2.2.2.2.2))).trans (hHeld.2.2.2.2.2.2.2.2.2.2)
              refine ⟨_, rfl, ?_⟩
              have n0_ := Aside0.mk (Kd.R_below F7_ hb)
              have n1_ := Aside0.mk (blk_below (g := gb101) (o := .cells #[.slice A0_0 l0_0.length c0_0, .slice A0_1 l0_1.length c0_1, .slice A0_2 l0_2.length c0_2] 96 (0, 0)) F1_ hb)
              have n2_ := Aside0.mk (blk_below (g := gb102) (o := .cells #[.slice A1_0 l1_0.length c1_0, .int .i64 a1_1, .int .i64 a1_2] 26 (0, 0)) F2_ hb)
              have n3_ := Aside0.mk (blk_below (g := gb103) (o := .cells #[.int .u64 a2_0, .int .u64 a2_1, .int .u64 a2_2, .int .u64 a2_3] 33 (0, 0)) F4_ hb)
              have n4_ := Aside0.mk (blk_below (g := gb114) (o := .cells #[.int .u64 t109, .int .u64 t110, .int .u64 t111, .int .u64 t112] 33 (0, 0)) F6_ hb)
              have n5_ := Aside0.mk (below_step F3_ hb)
              clear HO_9
              clear BK101
              clear BK102
              clear BK103
              clear BK114
              clear HB
              have HO_9 := n0_
              have BK101 := n1_
              have BK102 := n2_
              have BK103 := n3_
              have BK114 := n4_
              have HB := n5_
              clear n0_ n1_ n2_ n3_ n4_ n5_
              (try clear hb)
              (try clear hb2)
              (try clear hk)
              (try clear hi)
              refine hK.out _ _ ⟨(blk_cell BK101.out 0).trans rfl, (blk_cell BK101.out 1).trans rfl, (blk_cell BK101.out 2).trans rfl, (blk_cell BK102.out 0).trans rfl, (blk_cell BK102.out 1).trans rfl, (blk_cell BK102.out 2).trans rfl, (blk_cell BK103.out 0).trans rfl, (blk_cell BK103.out 1).trans rfl, (blk_cell BK103.out 2).trans rfl, (blk_cell BK103.out 3).trans rfl, HS10_⟩ (fun hHeld => ?_)
              clear hK K
              refine norm_ (a' := ?_) ?_ ?_
              rotate_left
              ·show Act.put _ (some 52) _ = _
               simp only [Act.put, List.setIfInBounds_toArray, List.set_cons_zero, List.set_cons_succ, i64_w, i32_w]
               rfl
              refine pure_ (i := 8) (N := some 44) (v := ?_) (a' := ?_) #[true, true, true, true, true, true, true, true, true, false, false, false, false, false] rfl rfl (any_of HT_.out (by kernel_rfl)) (fun _ _ _ h => h) (Or.inl ⟨by rfl, ?_⟩) ?_ ?_
              rotate_left
              ·intro w'
               go_simp
               with_reducible rfl
              rotate_left
              ·simp only [Act.put, List.setIfInBounds_toArray, List.set_cons_zero, List.set_cons_succ, i64_w, i32_w]
               rfl
              refine pure_ (i := 9) (N := some 53) (v := ?_) (a' := ?_) #[true, true, true, true, true, true, true, true, true, true, false, false, false, false] rfl rfl (any_of HT_.out (by kernel_rfl)) (fun _ _ _ h => h) (Or.inl ⟨by rfl, ?_⟩) ?_ ?_
              rotate_left
              ·intro w'
               go_simp
               with_reducible rfl
              rotate_left
              ·simp only [Act.put, List.setIfInBounds_toArray, List.set_cons_zero, List.set_cons_succ, i64_w, i32_w]
               rfl
              refine pure_ (i := 10) (N := some 54) (v := ?_) (a' := ?_) #[true, true, true, true, true, true, true, true, true, true, true, false, false, false] rfl rfl (any_of HT_.out (by kernel_rfl)) (fun _ _ _ h => h) (Or.inl ⟨by rfl, ?_⟩) ?_ ?_
              rotate_left
              ·intro w'
               go_simp
               with_reducible rfl
              rotate_left
              ·simp only [Act.put, List.setIfInBounds_toArray, List.set_cons_zero, List.set_cons_succ, i64_w, i32_w]
               rfl
              refine one_ (i := 11) (N := some 14) #[true, true, true, true, true, true, true, true, true, true, true, true, false, false] rfl rfl (one_of HT_.out (by kernel_rfl)) (by decide) (fun K hK => ?_)
              refine box_step ?hg (N := 14) ?hd (cs := #[.int .u64 0, .int .u64 0, .int .u64 0, .int .u64 0]) (t := 33) ?hr ?_; (case hd => rfl); (case hg => rfl); (case hr => first | (go_simp; done) | (go_simp; rfl))
              intro gb121 hg w51 hbox hb
              have HS10_ := (hb.cell (World.block_lt_of_cell? _ _ (hHeld.2.2.2.2.2.2.2.2.2.2))).trans (hHeld.2.2.2.2.2.2.2.2.2.2)
              have n0_ := Aside0.mk (Kd.R_below F7_ hb)
              have n1_ := Aside0.mk (blk_below (g := gb101) (o := .cells #[.slice A0_0 l0_0.length c0_0, .slice A0_1 l0_1.length c0_1, .slice A0_2 l0_2.length c0_2] 96 (0, 0)) F1_ hb)
              have n2_ := Aside0.mk (blk_below (g := gb102) (o := .cells #[.slice A1_0 l1_0.length c1_0, .int .i64 a1_1, .int .i64 a1_2] 26 (0, 0)) F2_ hb)
              have n3_ := Aside0.mk (blk_below (g := gb103) (o := .cells #[.int .u64 a2_0, .int .u64 a2_1, .int .u64 a2_2, .int .u64 a2_3] 33 (0, 0)) F4_ hb)
              have n4_ := Aside0.mk (blk_below (g := gb114) (o := .cells #[.int .u64 t109, .int .u64 t110, .int .u64 t111, .int .u64 t112] 33 (0, 0)) F6_ hb)
              have n5_ := Aside0.mk (below_step F3_ hb)
              have n6_ := Aside0.mk (hbox)
              have n7_ := Aside0.mk ((by rw [hg]; exact (below_size F3_) : w.heap.size ≤ gb121))
              have n8_ := Aside0.mk ((by rw [hg]; exact (below_size F3_) : w.heap.size ≤ gb121))
              have n9_ := Aside0.mk ((by rw [hg]; exact Nat.ne_of_lt (blk_lt (g := gb101) (o := .cells #[.slice A0_0 l0_0.length c0_0, .slice A0_1 l0_1.length c0_1, .slice A0_2 l0_2.length c0_2] 96 (0, 0)) F1_) : gb101 ≠ gb121))
              have n10_ := Aside0.mk ((by rw [hg]; exact Nat.ne_of_gt (blk_lt (g := gb101) (o := .cells #[.slice A0_0 l0_0.length c0_0, .slice A0_1 l0_1.length c0_1, .slice A0_2 l0_2.length c0_2] 96 (0, 0)) F1_) : gb121 ≠ gb101))
              have n11_ := Aside0.mk ((by rw [hg]; exact Nat.ne_of_lt (blk_lt (g := gb102) (o := .cells #[.slice A1_0 l1_0.length c1_0, .int .i64 a1_1, .int .i64 a1_2] 26 (0, 0)) F2_) : gb102 ≠ gb121))
              have n12_ := Aside0.mk ((by rw [hg]; exact Nat.ne_of_gt (blk_lt (g := gb102) (o := .cells #[.slice A1_0 l1_0.length c1_0, .int .i64 a1_1, .int .i64 a1_2] 26 (0, 0)) F2_) : gb121 ≠ gb102))
              have n13_ := Aside0.mk ((by rw [hg]; exact Nat.ne_of_lt (blk_lt (g := gb103) (o := .cells #[.int .u64 a2_0, .int .u64 a2_1, .int .u64 a2_2, .int .u64 a2_3] 33 (0, 0)) F4_) : gb103 ≠ gb121))
              have n14_ := Aside0.mk ((by rw [hg]; exact Nat.ne_of_gt (blk_lt (g := gb103) (o := .cells #[.int .u64 a2_0, .int .u64 a2_1, .int .u64 a2_2, .int .u64 a2_3] 33 (0, 0)) F4_) : gb121 ≠ gb103))
              have n15_ := Aside0.mk ((by rw [hg]; exact Nat.ne_of_lt (blk_lt (g := gb114) (o := .cells #[.int .u64 t109, .int .u64 t110, .int .u64 t111, .int .u64 t112] 33 (0, 0)) F6_) : gb114 ≠ gb121))
              have n16_ := Aside0.mk ((by rw [hg]; exact Nat.ne_of_gt (blk_lt (g := gb114) (o := .cells #[.int .u64 t109, .int .u64 t110, .int .u64 t111, .int .u64 t112] 33 (0, 0)) F6_) : gb121 ≠ gb114))
              clear HO_9
              clear BK101
              clear BK102
              clear BK103
              clear BK114
              clear HB
              have HO_9 := n0_
              have BK101 := n1_
              have BK102 := n2_
              have BK103 := n3_
              have BK114 := n4_
              have HB := n5_
              have BK121 := n6_
              have GW121 := n7_
              have GE121 := n8_
              have NB101_121 := n9_
              have NB121_101 := n10_
              have NB102_121 := n11_
              have NB121_102 := n12_
              have NB103_121 := n13_
              have NB121_103 := n14_
              have NB114_121 := n15_
              have NB121_114 := n16_
              clear n0_ n1_ n2_ n3_ n4_ n5_ n6_ n7_ n8_ n9_ n10_ n11_ n12_ n13_ n14_ n15_ n16_
              clear hb hbox hg
              refine hK.out _ _ ⟨(blk_cell BK101.out 0).trans rfl, (blk_cell BK101.out 1).trans rfl, (blk_cell BK101.out 2).trans rfl, (blk_cell BK102.out 0).trans rfl, (blk_cell BK102.out 1).trans rfl, (blk_cell BK102.out 2).trans rfl, (blk_cell BK103.out 0).trans rfl, (blk_cell BK103.out 1).trans rfl, (blk_cell BK103.out 2).trans rfl, (blk_cell BK103.out 3).trans rfl, HS10_⟩ (fun hHeld => ?_)
              clear hK K
              refine norm_ (a' := ?_) ?_ ?_
              rotate_left
              ·show Act.put _ (some 14) _ = _
               simp only [Act.put, List.setIfInBounds_toArray, List.set_cons_zero, List.set_cons_succ, i64_w, i32_w]
               rfl
              exact norm_ F21_ (hCont (gb121) _ ⟨hHeld, F7_, F1_, F2_, F4_, F6_, F30_, GW121.out, GE121.out, NB101_121.out, NB121_101.out, NB102_121.out, NB121_102.out, NB103_121.out, NB121_103.out, NB114_121.out, NB121_114.out, F10_⟩)
             ·skip
              refine box_step ?hg (N := 14) ?hd (cs := #[.int .u64 0, .int .u64 0, .int .u64 0, .int .u64 0]) (t := 33) ?hr ?_; (case hd => rfl); (case hg => rfl); (case hr => first | (go_simp; done) | (go_simp; rfl))
              intro gb121 hg w50 hbox hb
              have HS10_ := (hb.cell (World.block_lt_of_cell? _ _ (hHeld.2.2.2.2.2.2.2.2.2.2))).trans (hHeld.2.2.2.2.2.2.2.2.2.2)
              have n0_ := Aside0.mk (Kd.R_below F7_ hb)
              have n1_ := Aside0.mk (blk_below (g := gb101) (o := .cells #[.slice A0_0 l0_0.length c0_0, .slice A0_1 l0_1.length c0_1, .slice A0_2 l0_2.length c0_2] 96 (0, 0)) F1_ hb)
              have n2_ := Aside0.mk (blk_below (g := gb102) (o := .cells #[.slice A1_0 l1_0.length c1_0, .int .i64 a1_1, .int .i64 a1_2] 26 (0, 0)) F2_ hb)
              have n3_ := Aside0.mk (blk_below (g := gb103) (o := .cells #[.int .u64 a2_0, .int .u64 a2_1, .int .u64 a2_2, .int .u64 a2_3] 33 (0, 0)) F4_ hb)
              have n4_ := Aside0.mk (blk_below (g := gb114) (o := .cells #[.int .u64 t109, .int .u64 t110, .int .u64 t111, .int .u64 t112] 33 (0, 0)) F6_ hb)
              have n5_ := Aside0.mk (below_step F3_ hb)
              have n6_ := Aside0.mk (hbox)
              have n7_ := Aside0.mk ((by rw [hg]; exact (below_size F3_) : w.heap.size ≤ gb121))
              have n8_ := Aside0.mk ((by rw [hg]; exact (below_size F3_) : w.heap.size ≤ gb121))
              have n9_ := Aside0.mk ((by rw [hg]; exact Nat.ne_of_lt (blk_lt (g := gb101) (o := .cells #[.slice A0_0 l0_0.length c0_0, .slice A0_1 l0_1.length c0_1, .slice A0_2 l0_2.length c0_2] 96 (0, 0)) F1_) : gb101 ≠ gb121))
              have n10_ := Aside0.mk ((by rw [hg]; exact Nat.ne_of_gt (blk_lt (g := gb101) (o := .cells #[.slice A0_0 l0_0.length c0_0, .slice A0_1 l0_1.length c0_1, .slice A0_2 l0_2.length c0_2] 96 (0, 0)) F1_) : gb121 ≠ gb101))
              have n11_ := Aside0.mk ((by rw [hg]; exact Nat.ne_of_lt (blk_lt (g := gb102) (o := .cells #[.slice A1_0 l1_0.length c1_0, .int .i64 a1_1, .int .i64 a1_2] 26 (0, 0)) F2_) : gb102 ≠ gb121))
              have n12_ := Aside0.mk ((by rw [hg]; exact Nat.ne_of_gt (blk_lt (g := gb102) (o := .cells #[.slice A1_0 l1_0.length c1_0, .int .i64 a1_1, .int .i64 a1_2] 26 (0, 0)) F2_) : gb121 ≠ gb102))
              have n13_ := Aside0.mk ((by rw [hg]; exact Nat.ne_of_lt (blk_lt (g := gb103) (o := .cells #[.int .u64 a2_0, .int .u64 a2_1, .int .u64 a2_2, .int .u64 a2_3] 33 (0, 0)) F4_) : gb103 ≠ gb121))
              have n14_ := Aside0.mk ((by rw [hg]; exact Nat.ne_of_gt (blk_lt (g := gb103) (o := .cells #[.int .u64 a2_0, .int .u64 a2_1, .int .u64 a2_2, .int .u64 a2_3] 33 (0, 0)) F4_) : gb121 ≠ gb103))
              have n15_ := Aside0.mk ((by rw [hg]; exact Nat.ne_of_lt (blk_lt (g := gb114) (o := .cells #[.int .u64 t109, .int .u64 t110, .int .u64 t111, .int .u64 t112] 33 (0, 0)) F6_) : gb114 ≠ gb121))
              have n16_ := Aside0.mk ((by rw [hg]; exact Nat.ne_of_gt (blk_lt (g := gb114) (o := .cells #[.int .u64 t109, .int .u64 t110, .int .u64 t111, .int .u64 t112] 33 (0, 0)) F6_) : gb121 ≠ gb114))
              clear HO_9
              clear BK101
              clear BK102
              clear BK103
              clear BK114
              clear HB
              have HO_9 := n0_
              have BK101 := n1_
              have BK102 := n2_
              have BK103 := n3_
              have BK114 := n4_
              have HB := n5_
              have BK121 := n6_
              have GW121 := n7_
              have GE121 := n8_
              have NB101_121 := n9_
              have NB121_101 := n10_
              have NB102_121 := n11_
              have NB121_102 := n12_
              have NB103_121 := n13_
              have NB121_103 := n14_
              have NB114_121 := n15_
              have NB121_114 := n16_
              clear n0_ n1_ n2_ n3_ n4_ n5_ n6_ n7_ n8_ n9_ n10_ n11_ n12_ n13_ n14_ n15_ n16_
              clear hb hbox hg
              refine hK.out _ _ ⟨(blk_cell BK101.out 0).trans rfl, (blk_cell BK101.out 1).trans rfl, (blk_cell BK101.out 2).trans rfl, (blk_cell BK102.out 0).trans rfl, (blk_cell BK102.out 1).trans rfl, (blk_cell BK102.out 2).trans rfl, (blk_cell BK103.out 0).trans rfl, (blk_cell BK103.out 1).trans rfl, (blk_cell BK103.out 2).trans rfl, (blk_cell BK103.out 3).trans rfl, HS10_⟩ (fun hHeld => ?_)
              clear hK K
              refine norm_ (a' := ?_) ?_ ?_
              rotate_left
              ·show Act.put _ (some 14) _ = _
               simp only [Act.put, List.setIfInBounds_toArray, List.set_cons_zero, List.set_cons_succ, i64_w, i32_w]
               rfl
              refine one_ (i := 7) (N := some 52) #[true, true, true, true, true, true, true, true, false, false, false, true, false, false] rfl rfl (one_of HT_.out (by kernel_rfl)) (by decide) (fun K hK => ?_)
              refine goes_ Try.func115 (by kernel_rfl) rfl #[.agg #[.slice A0_0 l0_0.length c0_0, .slice A0_1 l0_1.length c0_1, .slice A0_2 l0_2.length c0_2], .agg #[.slice A1_0 l1_0.length c1_0, .int .i64 a1_1, .int .i64 a1_2], .int .i64 (rd t104 x10_1), .agg #[.int .u64 a2_0, .int .u64 a2_1, .int .u64 a2_2, .int .u64 a2_3]] (by rfl) rfl rfl F11_ ?_
              with_reducible refine (dunnageref14_Left.calls kj28 _ _ l0_0 _ _ l0_1 _ _ l0_2 _ _ l1_0 a1_1 a1_2 (rd t104 x10_1) a2_0 a2_1 a2_2 a2_3 t116 t117 t118 t119 t120 _ ?side1 ?side2 ?side3 ?side4 ?side5 ?side6 ?side7 ?side8 A37.out).mono ?_
              (case side1 => exact F12_)
              (case side2 => exact HC0_0.out)
              (case side3 => exact F13_)
              (case side4 => exact HC0_1.out)
              (case side5 => exact F14_)
              (case side6 => exact HC0_2.out)
              (case side7 => exact F15_)
              (case side8 => exact HC1_0.out)
              rintro e w51 ⟨rfl, hb⟩
              have HS10_ := (hb.cell (World.block_lt_of_cell? _ _ (hHeld.2.2.2.2.2.2.2.2.2.2))).trans (hHeld.2.2.2.2.2.2.2.2.2.2)
              refine ⟨_, rfl, ?_⟩
              have n0_ := Aside0.mk (Kd.R_below F7_ hb)
              have n1_ := Aside0.mk (blk_below (g := gb101) (o := .cells #[.slice A0_0 l0_0.length c0_0, .slice A0_1 l0_1.length c0_1, .slice A0_2 l0_2.length c0_2] 96 (0, 0)) F1_ hb)
              have n2_ := Aside0.mk (blk_below (g := gb102) (o := .cells #[.slice A1_0 l1_0.length c1_0, .int .i64 a1_1, .int .i64 a1_2] 26 (0, 0)) F2_ hb)
              have n3_ := Aside0.mk (blk_below (g := gb103) (o := .cells #[.int .u64 a2_0, .int .u64 a2_1, .int .u64 a2_2, .int .u64 a2_3] 33 (0, 0)) F4_ hb)
              have n4_ := Aside0.mk (blk_below (g := gb114) (o := .cells #[.int .u64 t109, .int .u64 t110, .int .u64 t111, .int .u64 t112] 33 (0, 0)) F6_ hb)
              have n5_ := Aside0.mk (blk_below (g := gb121) (o := .cells #[.int .u64 0, .int .u64 0, .int .u64 0, .int .u64 0] 33 (0, 0)) F30_ hb)
              have n6_ := Aside0.mk (below_step F10_ hb)
              clear HO_9
              clear BK101
              clear BK102
              clear BK103
              clear BK114
              clear BK121
              clear HB
              have HO_9 := n0_
              have BK101 := n1_
              have BK102 := n2_
              have BK103 := n3_
              have BK114 := n4_
              have BK121 := n5_
              have HB := n6_
              clear n0_ n1_ n2_ n3_ n4_ n5_ n6_
              (try clear hb)
              (try clear hb2)
              (try clear hk)
              (try clear hi)
              refine hK.out _ _ ⟨(blk_cell BK101.out 0).trans rfl, (blk_cell BK101.out 1).trans rfl, (blk_cell BK101.out 2).trans rfl, (blk_cell BK102.out 0).trans rfl, (blk_cell BK102.out 1).trans rfl, (blk_cell BK102.out 2).trans rfl, (blk_cell BK103.out 0).trans rfl, (blk_cell BK103.out 1).trans rfl, (blk_cell BK103.out 2).trans rfl, (blk_cell BK103.out 3).trans rfl, HS10_⟩ (fun hHeld => ?_)
              clear hK K
              refine norm_ (a' := ?_) ?_ ?_
              rotate_left
              ·show Act.put _ (some 52) _ = _
               simp only [Act.put, List.setIfInBounds_toArray, List.set_cons_zero, List.set_cons_succ, i64_w, i32_w]
               rfl
              refine pure_ (i := 8) (N := some 44) (v := ?_) (a' := ?_) #[true, true, true, true, true, true, true, true, true, false, false, true, false, false] rfl rfl (any_of HT_.out (by kernel_rfl)) (fun _ _ _ h => h) (Or.inl ⟨by rfl, ?_⟩) ?_ ?_
              rotate_left
              ·intro w'
               go_simp
               with_reducible rfl
              rotate_left
              ·simp only [Act.put, List.setIfInBounds_toArray, List.set_cons_zero, List.set_cons_succ, i64_w, i32_w]
               rfl
              refine pure_ (i := 9) (N := some 53) (v := ?_) (a' := ?_) #[true, true, true, true, true, true, true, true, true, true, false, true, false, false] rfl rfl (any_of HT_.out (by kernel_rfl)) (fun _ _ _ h => h) (Or.inl ⟨by rfl, ?_⟩) ?_ ?_
              rotate_left
              ·intro w'
               go_simp
               with_reducible rfl
              rotate_left
              ·simp only [Act.put, List.setIfInBounds_toArray, List.set_cons_zero, List.set_cons_succ, i64_w, i32_w]
               rfl
              refine pure_ (i := 10) (N := some 54) (v := ?_) (a' := ?_) #[true, true, true, true, true, true, true, true, true, true, true, true, false, false] rfl rfl (any_of HT_.out (by kernel_rfl)) (fun _ _ _ h => h) (Or.inl ⟨by rfl, ?_⟩) ?_ ?_
              rotate_left
              ·intro w'
               go_simp
               with_reducible rfl
              rotate_left
              ·simp only [Act.put, List.setIfInBounds_toArray, List.set_cons_zero, List.set_cons_succ, i64_w, i32_w]
               rfl
              exact norm_ F21_ (hCont (gb121) _ ⟨hHeld, F7_, F1_, F2_, F4_, F6_, F30_, GW121.out, GE121.out, NB101_121.out, NB121_101.out, NB102_121.out, NB121_102.out, NB103_121.out, NB121_103.out, NB114_121.out, NB121_114.out, F10_⟩)
            rintro gb121 w52 ⟨hS_, h0_, h1_, h2_, h3_, h4_, h5_, h6_, h7_, h8_, h9_, h10_, h11_, h12_, h13_, h14_, h15_, h16_⟩
            have n0_ : Aside0 (Kd.R (Kd.int .i64) 3 w52 w.heap.size (fun _ => True) (.slice (some ad108) t104.length co28) t104) := ⟨h0_⟩
            have n1_ : Aside0 (w52.heap[gb101]? = some (.cells #[.slice A0_0 l0_0.length c0_0, .slice A0_1 l0_1.length c0_1, .slice A0_2 l0_2.length c0_2] 96 (0, 0))) := ⟨h1_⟩
            have n2_ : Aside0 (w52.heap[gb102]? = some (.cells #[.slice A1_0 l1_0.length c1_0, .int .i64 a1_1, .int .i64 a1_2] 26 (0, 0))) := ⟨h2_⟩
            have n3_ : Aside0 (w52.heap[gb103]? = some (.cells #[.int .u64 a2_0, .int .u64 a2_1, .int .u64 a2_2, .int .u64 a2_3] 33 (0, 0))) := ⟨h3_⟩
            have n4_ : Aside0 (w52.heap[gb114]? = some (.cells #[.int .u64 t109, .int .u64 t110, .int .u64 t111, .int .u64 t112] 33 (0, 0))) := ⟨h4_⟩
            have n5_ : Aside0 (w52.heap[gb121]? = some (.cells #[.int .u64 0, .int .u64 0, .int .u64 0, .int .u64 0] 33 (0, 0))) := ⟨h5_⟩
            have n6_ : Aside0 (w.heap.size ≤ gb121) := ⟨h6_⟩
            have n7_ : Aside0 (w.heap.size ≤ gb121) := ⟨h7_⟩
            have n8_ : Aside0 (gb101 ≠ gb121) := ⟨h8_⟩
            have n9_ : Aside0 (gb121 ≠ gb101) := ⟨h9_⟩
            have n10_ : Aside0 (gb102 ≠ gb121) := ⟨h10_⟩
            have n11_ : Aside0 (gb121 ≠ gb102) := ⟨h11_⟩
            have n12_ : Aside0 (gb103 ≠ gb121) := ⟨h12_⟩
            have n13_ : Aside0 (gb121 ≠ gb103) := ⟨h13_⟩
            have n14_ : Aside0 (gb114 ≠ gb121) := ⟨h14_⟩
            have n15_ : Aside0 (gb121 ≠ gb114) := ⟨h15_⟩
            have n16_ : Aside0 (Below w.heap.size w w52) := ⟨h16_⟩
            clear HO_9
            clear BK101
            clear BK102
            clear BK103
            clear BK114
            clear HB
            clear h0_ h1_ h2_ h3_ h4_ h5_ h6_ h7_ h8_ h9_ h10_ h11_ h12_ h13_ h14_ h15_ h16_
            have HO_9 := n0_
            have BK101 := n1_
            have BK102 := n2_
            have BK103 := n3_
            have BK114 := n4_
            have BK121 := n5_
            have GW121 := n6_
            have GE121 := n7_
            have NB101_121 := n8_
            have NB121_101 := n9_
            have NB102_121 := n10_
            have NB121_102 := n11_
            have NB103_121 := n12_
            have NB121_103 := n13_
            have NB114_121 := n14_
            have NB121_114 := n15_
            have HB := n16_
            clear n0_ n1_ n2_ n3_ n4_ n5_ n6_ n7_ n8_ n9_ n10_ n11_ n12_ n13_ n14_ n15_ n16_
            have hHeld : w52.cell? ⟨gb101, 0, none⟩ = some (.slice A0_0 l0_0.length c0_0) ∧ w52.cell? ⟨gb101, 1, none⟩ = some (.slice A0_1 l0_1.length c0_1) ∧ w52.cell? ⟨gb101, 2, none⟩ = some (.slice A0_2 l0_2.length c0_2) ∧ w52.cell? ⟨gb102, 0, none⟩ = some (.slice A1_0 l1_0.length c1_0) ∧ w52.cell? ⟨gb102, 1, none⟩ = some (.int .i64 a1_1) ∧ w52.cell? ⟨gb102, 2, none⟩ = some (.int .i64 a1_2) ∧ w52.cell? ⟨gb103, 0, none⟩ = some (.int .u64 a2_0) ∧ w52.cell? ⟨gb103, 1, none⟩ = some (.int .u64 a2_1) ∧ w52.cell? ⟨gb103, 2, none⟩ = some (.int .u64 a2_2) ∧ w52.cell? ⟨gb103, 3, none⟩ = some (.int .u64 a2_3) ∧ w52.cell? (ad108.add (x10_1).toNat) = some (.int .i64 (rd t104 x10_1)) := hS_
            refine norm_ (a' := ?_) ?_ ?_
            rotate_left
            ·simp only [putAll, Act.put, List.setIfInBounds_toArray, List.set_cons_zero, List.set_cons_succ]
             rfl
            refine one_ (i := 12) (N := none) #[true, true, true, true, true, true, true, true, true, true, true, true, true, false] rfl rfl (one_of HT_.out (by kernel_rfl)) (by decide) (fun K hK => ?_)
            have hs53 : w52.cell? ⟨gb121, 0, none⟩ = some (.int .u64 0) := (blk_cell BK121.out 0).trans rfl
            have hfs53 := blk_frozen BK121.out 0
            have hns53_0 := NB101_121.out
            have hns53_1 := NB102_121.out
            have hns53_2 := NB103_121.out
            have hns53_3 := NB114_121.out
            have hms53_0 := NB121_101.out
            have hms53_1 := NB121_102.out
            have hms53_2 := NB121_103.out
            have hms53_3 := NB121_114.out
            have hs54 : w52.cell? ⟨gb121, 1, none⟩ = some (.int .u64 0) := (blk_cell BK121.out 1).trans rfl
            have hfs54 := blk_frozen BK121.out 1
            have hns54_0 := NB101_121.out
            have hns54_1 := NB102_121.out
            have hns54_2 := NB103_121.out
            have hns54_3 := NB114_121.out
            have hms54_0 := NB121_101.out
            have hms54_1 := NB121_102.out
            have hms54_2 := NB121_103.out
            have hms54_3 := NB121_114.out
            have hs55 : w52.cell? ⟨gb121, 2, none⟩ = some (.int .u64 0) := (blk_cell BK121.out 2).trans rfl
            have hfs55 := blk_frozen BK121.out 2
            have hns55_0 := NB101_121.out
            have hns55_1 := NB102_121.out
            have hns55_2 := NB103_121.out
            have hns55_3 := NB114_121.out
            have hms55_0 := NB121_101.out
            have hms55_1 := NB121_102.out
            have hms55_2 := NB121_103.out
            have hms55_3 := NB121_114.out
            have hs56 : w52.cell? ⟨gb121, 3, none⟩ = some (.int .u64 0) := (blk_cell BK121.out 3).trans rfl
            have hfs56 := blk_frozen BK121.out 3
            have hns56_0 := NB101_121.out
            have hns56_1 := NB102_121.out
            have hns56_2 := NB103_121.out
            have hns56_3 := NB114_121.out
            have hms56_0 := NB121_101.out
            have hms56_1 := NB121_102.out
            have hms56_2 := NB121_103.out
            have hms56_3 := NB121_114.out
            refine skip_ (w1 := ?_) (by rfl) rfl ?_ ?_
            rotate_left
            ·go_simp
             rfl
            refine hK.out _ _ ⟨((cell_far (p := ⟨gb121, _, none⟩) NB101_121.out _).trans (((cell_far (p := ⟨gb121, _, none⟩) NB101_121.out _).trans (((cell_far (p := ⟨gb121, _, none⟩) NB101_121.out _).trans (((cell_far (p := ⟨gb121, _, none⟩) NB101_121.out _).trans (hHeld.1)))))))), ((cell_far (p := ⟨gb121, _, none⟩) NB101_121.out _).trans (((cell_far (p := ⟨gb121, _, none⟩) NB101_121.out _).trans (((cell_far (p := ⟨gb121, _, none⟩) NB101_121.out _).trans (((cell_far (p := ⟨gb121, _, none⟩) NB101_121.out _).trans (hHeld.2.1)))))))), ((cell_far (p := ⟨gb121, _, none⟩) NB101_121.out _).trans (((cell_far (p := ⟨gb121, _, none⟩) NB101_121.out _).trans (((cell_far (p := ⟨gb121, _, none⟩) NB101_121.out _).trans (((cell_far (p := ⟨gb121, _, none⟩) NB101_121.out _).trans (hHeld.2.2.1)))))))), ((cell_far (p := ⟨gb121, _, none⟩) NB102_121.out _).trans (((cell_far (p := ⟨gb121, _, none⟩) NB102_121.out _).trans (((cell_far (p := ⟨gb121, _, none⟩) NB102_121.out _).trans (((cell_far (p := ⟨gb121, _, none⟩) NB102_121.out _).trans (hHeld.2.2.2.1)))))))), ((cell_far (p := ⟨gb121, _, none⟩) NB102_121.out _).trans (((cell_far (p := ⟨gb121, _, none⟩) NB102_121.out _).trans (((cell_far (p := ⟨gb121, _, none⟩) NB102_121.out _).trans (((cell_far (p := ⟨gb121, _, none⟩) NB102_121.out _).trans (hHeld.2.2.2.2.1)))))))), ((cell_far (p := ⟨gb121, _, none⟩) NB102_121.out _).trans (((cell_far (p := ⟨gb121, _, none⟩) NB102_121.out _).trans (((cell_far (p := ⟨gb121, _, none⟩) NB102_121.out _).trans (((cell_far (p := ⟨gb121, _, none⟩) NB102_121.out _).trans (hHeld.2.2.2.2.2.1)))))))), ((cell_far (p := ⟨gb121, _, none⟩) NB103_121.out _).trans (((cell_far (p := ⟨gb121, _, none⟩) NB103_121.out _).trans (((cell_far (p := ⟨gb121, _, none⟩) NB103_121.out _).trans (((cell_far (p := ⟨gb121, _, none⟩) NB103_121.out _).trans (hHeld.2.2.2.2.2.2.1)))))))), ((cell_far (p := ⟨gb121, _, none⟩) NB103_121.out _).trans (((cell_far (p := ⟨gb121, _, none⟩) NB103_121.out _).trans (((cell_far (p := ⟨gb121, _, none⟩) NB103_121.out _).trans (((cell_far (p := ⟨gb121, _, none⟩) NB103_121.out _).trans (hHeld.2.2.2.2.2.2.2.1)))))))), ((cell_far (p := ⟨gb121, _, none⟩) NB103_121.out _).trans (((cell_far (p := ⟨gb121, _, none⟩) NB103_121.out _).trans (((cell_far (p := ⟨gb121, _, none⟩) NB103_121.out _).trans (((cell_far (p := ⟨gb121, _, none⟩) NB103_121.out _).trans (hHeld.2.2.2.2.2.2.2.2.1)))))))), ((cell_far (p := ⟨gb121, _, none⟩) NB103_121.out _).trans (((cell_far (p := ⟨gb121, _, none⟩) NB103_121.out _).trans (((cell_far (p := ⟨gb121, _, none⟩) NB103_121.out _).trans (((cell_far (p := ⟨gb121, _, none⟩) NB103_121.out _).trans (hHeld.2.2.2.2.2.2.2.2.2.1)))))))), ((cell_far (p := ⟨gb121, _, none⟩) F9_ _).trans (((cell_far (p := ⟨gb121, _, none⟩) F9_ _).trans (((cell_far (p := ⟨gb121, _, none⟩) F9_ _).trans (((cell_far (p := ⟨gb121, _, none⟩) F9_ _).trans (hHeld.2.2.2.2.2.2.2.2.2.2))))))))⟩ (fun hHeld => ?_)
            clear hK K
            refine pure_ (i := 13) (N := some 15) (v := ?_) (a' := ?_) #[true, true, true, true, true, true, true, true, true, true, true, true, true, true] rfl rfl (any_of HT_.out (by kernel_rfl)) (fun _ _ _ h => h) (Or.inl ⟨by rfl, ?_⟩) ?_ ?_
            rotate_left
            ·intro w'
             go_simp
             with_reducible rfl
            rotate_left
            ·simp only [Act.put, List.setIfInBounds_toArray, List.set_cons_zero, List.set_cons_succ, i64_w, i32_w]
             rfl
            refine done_ (done_of HT_.out (by kernel_rfl)) ?_
            have hnb57 := NB114_101.out
            have hnc57 := NB101_114.out
            have hnb58 := NB114_102.out
            have hnc58 := NB102_114.out
            have hnb59 := NB114_103.out
            have hnc59 := NB103_114.out
            have hnb60 := NB114_121.out
            have hnc60 := NB121_114.out
            have hcz61_0 : w52.cell? ⟨gb114, 0, none⟩ = some (.int .u64 t109) := (blk_cell BK114.out 0).trans rfl
            have hcz61_1 : w52.cell? ⟨gb114, 1, none⟩ = some (.int .u64 t110) := (blk_cell BK114.out 1).trans rfl
            have hcz61_2 : w52.cell? ⟨gb114, 2, none⟩ = some (.int .u64 t111) := (blk_cell BK114.out 2).trans rfl
            have hcz61_3 : w52.cell? ⟨gb114, 3, none⟩ = some (.int .u64 t112) := (blk_cell BK114.out 3).trans rfl
            have hfz61_0 := blk_frozen BK114.out 0
            have hfz61_1 := blk_frozen BK114.out 1
            have hfz61_2 := blk_frozen BK114.out 2
            have hfz61_3 := blk_frozen BK114.out 3
            have hnb62 := NB121_101.out
            have hnc62 := NB101_121.out
            have hnb63 := NB121_102.out
            have hnc63 := NB102_121.out
            have hnb64 := NB121_103.out
            have hnc64 := NB103_121.out
            have hcz65_0 : w52.cell? ⟨gb121, 0, none⟩ = some (.int .u64 0) := (blk_cell BK121.out 0).trans rfl
            have hcz65_1 : w52.cell? ⟨gb121, 1, none⟩ = some (.int .u64 0) := (blk_cell BK121.out 1).trans rfl
            have hcz65_2 : w52.cell? ⟨gb121, 2, none⟩ = some (.int .u64 0) := (blk_cell BK121.out 2).trans rfl
            have hcz65_3 : w52.cell? ⟨gb121, 3, none⟩ = some (.int .u64 0) := (blk_cell BK121.out 3).trans rfl
            have hfz65_0 := blk_frozen BK121.out 0
            have hfz65_1 := blk_frozen BK121.out 1
            have hfz65_2 := blk_frozen BK121.out 2
            have hfz65_3 := blk_frozen BK121.out 3
            try go_wp2_with (first | ((with_reducible refine gate_callee (f := 65) rfl ?_); refine goesL_ (some 57) rfl rfl Try.func65 (by kernel_rfl) rfl #[.agg #[.int .u64 t109, .int .u64 t110, .int .u64 t111, .int .u64 t112], .agg #[.int .u64 t116, .int .u64 t117, .int .u64 t118, .int .u64 t119]] rfl F11_ ?_; (with_reducible refine (dunnageref14_Tighter.calls t109 t110 t111 t112 t116 t117 t118 t119 true _ A38.out).mono ?_); rintro e w66 ⟨rfl, hb⟩; refine ⟨_, rfl, ?_⟩; have n0_ := Aside0.mk (Kd.R_below F35_ hb); have n1_ := Aside0.mk (blk_below (g := gb101) (o := .cells #[.slice A0_0 l0_0.length c0_0, .slice A0_1 l0_1.length c0_1, .slice A0_2 l0_2.length c0_2] 96 (0, 0)) F23_ hb); have n2_ := Aside0.mk (blk_below (g := gb102) (o := .cells #[.slice A1_0 l1_0.length c1_0, .int .i64 a1_1, .int .i64 a1_2] 26 (0, 0)) F24_ hb); have n3_ := Aside0.mk (blk_below (g := gb103) (o := .cells #[.int .u64 a2_0, .int .u64 a2_1, .int .u64 a2_2, .int .u64 a2_3] 33 (0, 0)) F25_ hb); have n4_ := Aside0.mk (blk_below (g := gb114) (o := .cells #[.int .u64 t109, .int .u64 t110, .int .u64 t111, .int .u64 t112] 33 (0, 0)) F26_ hb); have n5_ := Aside0.mk (blk_below (g := gb121) (o := .cells #[.int .u64 t116, .int .u64 t117, .int .u64 t118, .int .u64 t119] 33 (0, 0)) F18_ hb); have n6_ := Aside0.mk (below_step F10_ hb); clear HO_9; clear BK101; clear BK102; clear BK103; clear BK114; clear BK121; clear HB; have HO_9 := n0_; have BK101 := n1_; have BK102 := n2_; have BK103 := n3_; have BK114 := n4_; have BK121 := n5_; have HB := n6_; clear n0_ n1_ n2_ n3_ n4_ n5_ n6_; (try clear hb); (try clear hb2); (try clear hk); (try clear hi)))
            go_roundg kj28
            case measure => have := HK1.out; have := HJ28.out; omega
            case rel => exact ⟨(x11_1), (wrap64 (x11_1 + 1)), F37_, F37_, H', ⟨by have := HK1.out; have := HJ28.out; omega⟩, ⟨F38_⟩, ⟨F31_⟩, ⟨F32_⟩, ⟨F33_⟩, ⟨F39_⟩⟩
           ·replace c39 := Bool.eq_false_iff.mpr c39
            subst c39
            have H1 : (dunnageref14_One.l0 kj28 a3 t104 x10_1 (wrap64 (x11_1 + 1)) l0_0 l0_1 l0_2 l1_0 a1_1 a1_2 a2_0 a2_1 a2_2 a2_3) = some r := by rw [if_neg (show ¬ (false = true) by decide)] at H; exact H
            clear H
            have H := H1
            clear H1
            have H' := Aside0.mk H
            clear H
            try go_wp2
            have n0_ := Aside0.mk (Kd.R_drew HO_9.out)
            have n1_ := Aside0.mk (blk_drew BK101.out)
            have n2_ := Aside0.mk (blk_drew BK102.out)
            have n3_ := Aside0.mk (blk_drew BK103.out)
            have n4_ := Aside0.mk (below_drew1 HB.out)
            clear HO_9
            clear BK101
            clear BK102
            clear BK103
            clear HB
            have HO_9 := n0_
            have BK101 := n1_
            have BK102 := n2_
            have BK103 := n3_
            have HB := n4_
            clear n0_ n1_ n2_ n3_ n4_
            have p108 : 0 ≤ (x11_1 : Int) := of_decide_eq_true F34_
            have q108 : x11_1 < (t104.length : Int) := of_decide_eq_true F34_
            obtain ⟨ad108, e108, hx108_0⟩ := Kd.at_int (Kd.R_reads' HO_9.out).2.2 x11_1 p108 q108
            cases e108
            replace p108 := eq_true p108
            replace q108 := eq_true q108
            refine start_ (n := 14) (S := fun w' => w'.cell? ⟨gb101, 0, none⟩ = some (.slice A0_0 l0_0.length c0_0) ∧ w'.cell? ⟨gb101, 1, none⟩ = some (.slice A0_1 l0_1.length c0_1) ∧ w'.cell? ⟨gb101, 2, none⟩ = some (.slice A0_2 l0_2.length c0_2) ∧ w'.cell? ⟨gb102, 0, none⟩ = some (.slice A1_0 l1_0.length c1_0) ∧ w'.cell? ⟨gb102, 1, none⟩ = some (.int .i64 a1_1) ∧ w'.cell? ⟨gb102, 2, none⟩ = some (.int .i64 a1_2) ∧ w'.cell? ⟨gb103, 0, none⟩ = some (.int .u64 a2_0) ∧ w'.cell? ⟨gb103, 1, none⟩ = some (.int .u64 a2_1) ∧ w'.cell? ⟨gb103, 2, none⟩ = some (.int .u64 a2_2) ∧ w'.cell? ⟨gb103, 3, none⟩ = some (.int .u64 a2_3) ∧ w'.cell? (ad108.add (x11_1).toNat) = some (.int .i64 (rd t104 x11_1))) (ds := []) #[false, false, false, false, false, false, false, false, false, false, false, false, false, false] (by kernel_rfl) rfl rfl ⟨(blk_cell BK101.out 0).trans rfl, (blk_cell BK101.out 1).trans rfl, (blk_cell BK101.out 2).trans rfl, (blk_cell BK102.out 0).trans rfl, (blk_cell BK102.out 1).trans rfl, (blk_cell BK102.out 2).trans rfl, (blk_cell BK103.out 0).trans rfl, (blk_cell BK103.out 1).trans rfl, (blk_cell BK103.out 2).trans rfl, (blk_cell BK103.out 3).trans rfl, hx108_0⟩ (fun hHeld => ?_); refine with_tabW dunnageref14_One.tab8 dunnageref14_One.bits8 (fun HT_ HW_ => ?_)
            generalize wc.drew = w67 at HO_9 BK101 BK102 BK103 HB hx108_0 hHeld ⊢
            refine pure_ (i := 2) (N := some 36) (v := ?_) (a' := ?_) #[false, false, true, false, false, false, false, false, false, false, false, false, false, false] rfl rfl (any_of HT_.out (by kernel_rfl)) (fun _ _ _ h => h) (Or.inl ⟨by rfl, ?_⟩) ?_ ?_
            rotate_left
            ·intro w'
             go_simp
             with_reducible rfl
            rotate_left
            ·simp only [Act.put, List.setIfInBounds_toArray, List.set_cons_zero, List.set_cons_succ, i64_w, i32_w]
             rfl
            refine pure_ (i := 3) (N := some 37) (v := ?_) (a' := ?_) #[false, false, true, true, false, false, false, false, false, false, false, false, false, false] rfl rfl (any_of HT_.out (by kernel_rfl)) (fun _ _ _ h => h) (Or.inl ⟨by rfl, ?_⟩) ?_ ?_
            rotate_left
            ·intro w'
             go_simp
             with_reducible rfl
            rotate_left
            ·simp only [Act.put, List.setIfInBounds_toArray, List.set_cons_zero, List.set_cons_succ, i64_w, i32_w]
             rfl
            refine pure_ (i := 4) (N := some 38) (v := ?_) (a' := ?_) #[false, false, true, true, true, false, false, false, false, false, false, false, false, false] rfl rfl (any_of HT_.out (by kernel_rfl)) (fun _ _ _ h => h) (Or.inl ⟨by rfl, ?_⟩) ?_ ?_
            rotate_left
            ·intro w'
             go_simp
             with_reducible rfl
            rotate_left
            ·simp only [Act.put, List.setIfInBounds_toArray, List.set_cons_zero, List.set_cons_succ, i64_w, i32_w]
             rfl
            refine take_ (i := 0) (N := some 34) (v := ?_) (a' := ?_) #[true, false, true, true, true, false, false, false, false, false, false, false, false, false] rfl rfl (take_ofW HT_.out HW_.out (by kernel_rfl)) (fun _ _ _ h => h) (Or.inl ⟨by rfl, ?_⟩) hHeld ?_ ?_
            rotate_left
            ·rintro w' ⟨s0, s1, s2, s3, s4, s5, s6, s7, s8, s9, s10⟩
             go_simp
             with_reducible rfl
            rotate_left
            ·simp only [Act.put, List.setIfInBounds_toArray, List.set_cons_zero, List.set_cons_succ, i64_w, i32_w]
             rfl
            refine take_ (i := 1) (N := some 35) (v := ?_) (a' := ?_) #[true, true, true, true, true, false, false, false, false, false, false, false, false, false] rfl rfl (take_ofW HT_.out HW_.out (by kernel_rfl)) (fun _ _ _ h => h) (Or.inl ⟨by rfl, ?_⟩) hHeld ?_ ?_
            rotate_left
            ·rintro w' ⟨s0, s1, s2, s3, s4, s5, s6, s7, s8, s9, s10⟩
             go_simp
             with_reducible rfl
            rotate_left
            ·simp only [Act.put, List.setIfInBounds_toArray, List.set_cons_zero, List.set_cons_succ, i64_w, i32_w]
             rfl
            refine take_ (i := 5) (N := some 39) (v := ?_) (a' := ?_) #[true, true, true, true, true, true, false, false, false, false, false, false, false, false] rfl rfl (take_ofW HT_.out HW_.out (by kernel_rfl)) (fun _ _ _ h => h) (Or.inl ⟨by rfl, ?_⟩) hHeld ?_ ?_
            rotate_left
            ·rintro w' ⟨s0, s1, s2, s3, s4, s5, s6, s7, s8, s9, s10⟩
             go_simp
             with_reducible rfl
            rotate_left
            ·simp only [Act.put, List.setIfInBounds_toArray, List.set_cons_zero, List.set_cons_succ, i64_w, i32_w]
             rfl
            refine take_ (i := 6) (N := some 40) (v := ?_) (a' := ?_) #[true, true, true, true, true, true, true, false, false, false, false, false, false, false] rfl rfl (take_ofW HT_.out HW_.out (by kernel_rfl)) (fun _ _ _ h => h) (Or.inl ⟨by rfl, ?_⟩) hHeld ?_ ?_
            rotate_left
            ·rintro w' ⟨s0, s1, s2, s3, s4, s5, s6, s7, s8, s9, s10⟩
             go_simp
             with_reducible rfl
            rotate_left
            ·simp only [Act.put, List.setIfInBounds_toArray, List.set_cons_zero, List.set_cons_succ, i64_w, i32_w]
             rfl
            refine join_ (σ := Nat) 2 #[true, true, true, true, true, true, true, true, true, true, true, true, false, false] (fun s_ => [(41, .tuple #[.agg #[.int .u64 t109, .int .u64 t110, .int .u64 t111, .int .u64 t112], .bool t113]), (12, .pointer (some ⟨s_, 0, none⟩)), (33, .tuple #[.agg #[.int .u64 t109, .int .u64 t110, .int .u64 t111, .int .u64 t112], .bool t113]), (42, .agg #[.int .u64 t109, .int .u64 t110, .int .u64 t111, .int .u64 t112]), (43, .bool t113)]) (fun s_ w' => (w'.cell? ⟨gb101, 0, none⟩ = some (.slice A0_0 l0_0.length c0_0) ∧ w'.cell? ⟨gb101, 1, none⟩ = some (.slice A0_1 l0_1.length c0_1) ∧ w'.cell? ⟨gb101, 2, none⟩ = some (.slice A0_2 l0_2.length c0_2) ∧ w'.cell? ⟨gb102, 0, none⟩ = some (.slice A1_0 l1_0.length c1_0) ∧ w'.cell? ⟨gb102, 1, none⟩ = some (.int .i64 a1_1) ∧ w'.cell? ⟨gb102, 2, none⟩ = some (.int .i64 a1_2) ∧ w'.cell? ⟨gb103, 0, none⟩ = some (.int .u64 a2_0) ∧ w'.cell? ⟨gb103, 1, none⟩ = some (.int .u64 a2_1) ∧ w'.cell? ⟨gb103, 2, none⟩ = some (.int .u64 a2_2) ∧ w'.cell? ⟨gb103, 3, none⟩ = some (.int .u64 a2_3) ∧ w'.cell? (ad108.add (x11_1).toNat) = some (.int .i64 (rd t104 x11_1))) ∧ (Kd.R (Kd.int .i64) 3 w' w.heap.size (fun _ => True) (.slice (some ad108) t104.length co28) t104) ∧ (w'.heap[gb101]? = some (.cells #[.slice A0_0 l0_0.length c0_0, .slice A0_1 l0_1.length c0_1, .slice A0_2 l0_2.length c0_2] 96 (0, 0))) ∧ (w'.heap[gb102]? = some (.cells #[.slice A1_0 l1_0.length c1_0, .int .i64 a1_1, .int .i64 a1_2] 26 (0, 0))) ∧ (w'.heap[gb103]? = some (.cells #[.int .u64 a2_0, .int .u64 a2_1, .int .u64 a2_2, .int .u64 a2_3] 33 (0, 0))) ∧ (w'.heap[s_]? = some (.cells #[.int .u64 0, .int .u64 0, .int .u64 0, .int .u64 0] 33 (0, 0))) ∧ (w.heap.size ≤ s_) ∧ (w.heap.size ≤ s_) ∧ (gb101 ≠ s_) ∧ (s_ ≠ gb101) ∧ (gb102 ≠ s_) ∧ (s_ ≠ gb102) ∧ (gb103 ≠ s_) ∧ (s_ ≠ gb103) ∧ (Below w.heap.size w w')) ?_ ?_
            rotate_left
            ·intro hCont
             refine two_ (i := 7) (j := 11) (Ni := some 41) (Nj := some 12) #[true, true, true, true, true, true, true, true, false, false, false, false, false, false] #[true, true, true, true, true, true, true, false, false, false, false, true, false, false] rfl rfl rfl rfl (two_of HT_.out (by kernel_rfl)) (by decide) (by decide) (fun K hK => ?_) (fun K hK => ?_)
             ·skip
              refine goes_ Try.func115 (by kernel_rfl) rfl #[.agg #[.slice A0_0 l0_0.length c0_0, .slice A0_1 l0_1.length c0_1, .slice A0_2 l0_2.length c0_2], .agg #[.slice A1_0 l1_0.length c1_0, .int .i64 a1_1, .int .i64 a1_2], .int .i64 (rd t104 x11_1), .agg #[.int .u64 a2_0, .int .u64 a2_1, .int .u64 a2_2, .int .u64 a2_3]] (by rfl) rfl rfl F11_ ?_
              with_reducible refine (dunnageref14_Left.calls kj28 _ _ l0_0 _ _ l0_1 _ _ l0_2 _ _ l1_0 a1_1 a1_2 (rd t104 x11_1) a2_0 a2_1 a2_2 a2_3 t109 t110 t111 t112 t113 _ ?side1 ?side2 ?side3 ?side4 ?side5 ?side6 ?side7 ?side8 A34.out).mono ?_
              (case side1 => exact F12_)
              (case side2 => exact HC0_0.out)
              (case side3 => exact F13_)
              (case side4 => exact HC0_1.out)
              (case side5 => exact F14_)
              (case side6 => exact HC0_2.out)
              (case side7 => exact F15_)
              (case side8 => exact HC1_0.out)
              rintro e w68 ⟨rfl, hb⟩
              have HS10_ := (hb.cell (World.block_lt_of_cell? _ _ (hHeld.2.2.2.2.2.2.2.2.2.2))).trans (hHeld.2.2.2.2.2.2.2.2.2.2)
              refine ⟨_, rfl, ?_⟩
              have n0_ := Aside0.mk (Kd.R_below F7_ hb)
              have n1_ := Aside0.mk (blk_below (g := gb101) (o := .cells #[.slice A0_0 l0_0.length c0_0, .slice A0_1 l0_1.length c0_1, .slice A0_2 l0_2.length c0_2] 96 (0, 0)) F1_ hb)
              have n2_ := Aside0.mk (blk_below (g := gb102) (o := .cells #[.slice A1_0 l1_0.length c1_0, .int .i64 a1_1, .int .i64 a1_2] 26 (0, 0)) F2_ hb)
              have n3_ := Aside0.mk (blk_below (g := gb103) (o := .cells #[.int .u64 a2_0, .int .u64 a2_1, .int .u64 a2_2, .int .u64 a2_3] 33 (0, 0)) F4_ hb)
              have n4_ := Aside0.mk (below_step F5_ hb)
              clear HO_9
              clear BK101
              clear BK102
              clear BK103
              clear HB
              have HO_9 := n0_
              have BK101 := n1_
              have BK102 := n2_
              have BK103 := n3_
              have HB := n4_
              clear n0_ n1_ n2_ n3_ n4_
              (try clear hb)
              (try clear hb2)
              (try clear hk)
              (try clear hi)
              refine hK.out _ _ ⟨(blk_cell BK101.out 0).trans rfl, (blk_cell BK101.out 1).trans rfl, (blk_cell BK101.out 2).trans rfl, (blk_cell BK102.out 0).trans rfl, (blk_cell BK102.out 1).trans rfl, (blk_cell BK102.out 2).trans rfl, (blk_cell BK103.out 0).trans rfl, (blk_cell BK103.out 1).trans rfl, (blk_cell BK103.out 2).trans rfl, (blk_cell BK103.out 3).trans rfl, HS10_⟩ (fun hHeld => ?_)
              clear hK K
              refine norm_ (a' := ?_) ?_ ?_
              rotate_left
              ·show Act.put _ (some 41) _ = _
               simp only [Act.put, List.setIfInBounds_toArray, List.set_cons_zero, List.set_cons_succ, i64_w, i32_w]
               rfl
              refine pure_ (i := 8) (N := some 33) (v := ?_) (a' := ?_) #[true, true, true, true, true, true, true, true, true, false, false, false, false, false] rfl rfl (any_of HT_.out (by kernel_rfl)) (fun _ _ _ h => h) (Or.inl ⟨by rfl, ?_⟩) ?_ ?_
              rotate_left
              ·intro w'
               go_simp
               with_reducible rfl
              rotate_left
              ·simp only [Act.put, List.setIfInBounds_toArray, List.set_cons_zero, List.set_cons_succ, i64_w, i32_w]
               rfl
              refine pure_ (i := 9) (N := some 42) (v := ?_) (a' := ?_) #[true, true, true, true, true, true, true, true, true, true, false, false, false, false] rfl rfl (any_of HT_.out (by kernel_rfl)) (fun _ _ _ h => h) (Or.inl ⟨by rfl, ?_⟩) ?_ ?_
              rotate_left
              ·intro w'
               go_simp
               with_reducible rfl
              rotate_left
              ·simp only [Act.put, List.setIfInBounds_toArray, List.set_cons_zero, List.set_cons_succ, i64_w, i32_w]
               rfl
              refine pure_ (i := 10) (N := some 43) (v := ?_) (a' := ?_) #[true, true, true, true, true, true, true, true, true, true, true, false, false, false] rfl rfl (any_of HT_.out (by kernel_rfl)) (fun _ _ _ h => h) (Or.inl ⟨by rfl, ?_⟩) ?_ ?_
              rotate_left
              ·intro w'
               go_simp
               with_reducible rfl
              rotate_left
              ·simp only [Act.put, List.setIfInBounds_toArray, List.set_cons_zero, List.set_cons_succ, i64_w, i32_w]
               rfl
              refine one_ (i := 11) (N := some 12) #[true, true, true, true, true, true, true, true, true, true, true, true, false, false] rfl rfl (one_of HT_.out (by kernel_rfl)) (by decide) (fun K hK => ?_)
              refine box_step ?hg (N := 12) ?hd (cs := #[.int .u64 0, .int .u64 0, .int .u64 0, .int .u64 0]) (t := 33) ?hr ?_; (case hd => rfl); (case hg => rfl); (case hr => first | (go_simp; done) | (go_simp; rfl))
              intro gb114 hg w69 hbox hb
              have HS10_ := (hb.cell (World.block_lt_of_cell? _ _ (hHeld.2.2.2.2.2.2.2.2.2.2))).trans (hHeld.2.2.2.2.2.2.2.2.2.2)
              have n0_ := Aside0.mk (Kd.R_below F7_ hb)
              have n1_ := Aside0.mk (blk_below (g := gb101) (o := .cells #[.slice A0_0 l0_0.length c0_0, .slice A0_1 l0_1.length c0_1, .slice A0_2 l0_2.length c0_2] 96 (0, 0)) F1_ hb)
              have n2_ := Aside0.mk (blk_below (g := gb102) (o := .cells #[.slice A1_0 l1_0.length c1_0, .int .i64 a1_1, .int .i64 a1_2] 26 (0, 0)) F2_ hb)
              have n3_ := Aside0.mk (blk_below (g := gb103) (o := .cells #[.int .u64 a2_0, .int .u64 a2_1, .int .u64 a2_2, .int .u64 a2_3] 33 (0, 0)) F4_ hb)
              have n4_ := Aside0.mk (below_step F5_ hb)
              have n5_ := Aside0.mk (hbox)
              have n6_ := Aside0.mk ((by rw [hg]; exact (below_size F5_) : w.heap.size ≤ gb114))
              have n7_ := Aside0.mk ((by rw [hg]; exact (below_size F5_) : w.heap.size ≤ gb114))
              have n8_ := Aside0.mk ((by rw [hg]; exact Nat.ne_of_lt (blk_lt (g := gb101) (o := .cells #[.slice A0_0 l0_0.length c0_0, .slice A0_1 l0_1.length c0_1, .slice A0_2 l0_2.length c0_2] 96 (0, 0)) F1_) : gb101 ≠ gb114))
              have n9_ := Aside0.mk ((by rw [hg]; exact Nat.ne_of_gt (blk_lt (g := gb101) (o := .cells #[.slice A0_0 l0_0.length c0_0, .slice A0_1 l0_1.length c0_1, .slice A0_2 l0_2.length c0_2] 96 (0, 0)) F1_) : gb114 ≠ gb101))
              have n10_ := Aside0.mk ((by rw [hg]; exact Nat.ne_of_lt (blk_lt (g := gb102) (o := .cells #[.slice A1_0 l1_0.length c1_0, .int .i64 a1_1, .int .i64 a1_2] 26 (0, 0)) F2_) : gb102 ≠ gb114))
              have n11_ := Aside0.mk ((by rw [hg]; exact Nat.ne_of_gt (blk_lt (g := gb102) (o := .cells #[.slice A1_0 l1_0.length c1_0, .int .i64 a1_1, .int .i64 a1_2] 26 (0, 0)) F2_) : gb114 ≠ gb102))
              have n12_ := Aside0.mk ((by rw [hg]; exact Nat.ne_of_lt (blk_lt (g := gb103) (o := .cells #[.int .u64 a2_0, .int .u64 a2_1, .int .u64 a2_2, .int .u64 a2_3] 33 (0, 0)) F4_) : gb103 ≠ gb114))
              have n13_ := Aside0.mk ((by rw [hg]; exact Nat.ne_of_gt (blk_lt (g := gb103) (o := .cells #[.int .u64 a2_0, .int .u64 a2_1, .int .u64 a2_2, .int .u64 a2_3] 33 (0, 0)) F4_) : gb114 ≠ gb103))
              clear HO_9
              clear BK101
              clear BK102
              clear BK103
              clear HB
              have HO_9 := n0_
              have BK101 := n1_
              have BK102 := n2_
              have BK103 := n3_
              have HB := n4_
              have BK114 := n5_
              have GW114 := n6_
              have GE114 := n7_
              have NB101_114 := n8_
              have NB114_101 := n9_
              have NB102_114 := n10_
              have NB114_102 := n11_
              have NB103_114 := n12_
              have NB114_103 := n13_
              clear n0_ n1_ n2_ n3_ n4_ n5_ n6_ n7_ n8_ n9_ n10_ n11_ n12_ n13_
              clear hb hbox hg
              refine hK.out _ _ ⟨(blk_cell BK101.out 0).trans rfl, (blk_cell BK101.out 1).trans rfl, (blk_cell BK101.out 2).trans rfl, (blk_cell BK102.out 0).trans rfl, (blk_cell BK102.out 1).trans rfl, (blk_cell BK102.out 2).trans rfl, (blk_cell BK103.out 0).trans rfl, (blk_cell BK103.out 1).trans rfl, (blk_cell BK103.out 2).trans rfl, (blk_cell BK103.out 3).trans rfl, HS10_⟩ (fun hHeld => ?_)
              clear hK K
              refine norm_ (a' := ?_) ?_ ?_
              rotate_left
              ·show Act.put _ (some 12) _ = _
               simp only [Act.put, List.setIfInBounds_toArray, List.set_cons_zero, List.set_cons_succ, i64_w, i32_w]
               rfl
              exact norm_ F21_ (hCont (gb114) _ ⟨hHeld, F7_, F1_, F2_, F4_, F6_, GW114.out, GE114.out, NB101_114.out, NB114_101.out, NB102_114.out, NB114_102.out, NB103_114.out, NB114_103.out, F3_⟩)
             ·skip
              refine box_step ?hg (N := 12) ?hd (cs := #[.int .u64 0, .int .u64 0, .int .u64 0, .int .u64 0]) (t := 33) ?hr ?_; (case hd => rfl); (case hg => rfl); (case hr => first | (go_simp; done) | (go_simp; rfl))
              intro gb114 hg w68 hbox hb
              have HS10_ := (hb.cell (World.block_lt_of_cell? _ _ (hHeld.2.2.2.2.2.2.2.2.2.2))).trans (hHeld.2.2.2.2.2.2.2.2.2.2)
              have n0_ := Aside0.mk (Kd.R_below F7_ hb)
              have n1_ := Aside0.mk (blk_below (g := gb101) (o := .cells #[.slice A0_0 l0_0.length c0_0, .slice A0_1 l0_1.length c0_1, .slice A0_2 l0_2.length c0_2] 96 (0, 0)) F1_ hb)
              have n2_ := Aside0.mk (blk_below (g := gb102) (o := .cells #[.slice A1_0 l1_0.length c1_0, .int .i64 a1_1, .int .i64 a1_2] 26 (0, 0)) F2_ hb)
              have n3_ := Aside0.mk (blk_below (g := gb103) (o := .cells #[.int .u64 a2_0, .int .u64 a2_1, .int .u64 a2_2, .int .u64 a2_3] 33 (0, 0)) F4_ hb)
              have n4_ := Aside0.mk (below_step F5_ hb)
              have n5_ := Aside0.mk (hbox)
              have n6_ := Aside0.mk ((by rw [hg]; exact (below_size F5_) : w.heap.size ≤ gb114))
              have n7_ := Aside0.mk ((by rw [hg]; exact (below_size F5_) : w.heap.size ≤ gb114))
              have n8_ := Aside0.mk ((by rw [hg]; exact Nat.ne_of_lt (blk_lt (g := gb101) (o := .cells #[.slice A0_0 l0_0.length c0_0, .slice A0_1 l0_1.length c0_1, .slice A0_2 l0_2.length c0_2] 96 (0, 0)) F1_) : gb101 ≠ gb114))
              have n9_ := Aside0.mk ((by rw [hg]; exact Nat.ne_of_gt (blk_lt (g := gb101) (o := .cells #[.slice A0_0 l0_0.length c0_0, .slice A0_1 l0_1.length c0_1, .slice A0_2 l0_2.length c0_2] 96 (0, 0)) F1_) : gb114 ≠ gb101))
              have n10_ := Aside0.mk ((by rw [hg]; exact Nat.ne_of_lt (blk_lt (g := gb102) (o := .cells #[.slice A1_0 l1_0.length c1_0, .int .i64 a1_1, .int .i64 a1_2] 26 (0, 0)) F2_) : gb102 ≠ gb114))
              have n11_ := Aside0.mk ((by rw [hg]; exact Nat.ne_of_gt (blk_lt (g := gb102) (o := .cells #[.slice A1_0 l1_0.length c1_0, .int .i64 a1_1, .int .i64 a1_2] 26 (0, 0)) F2_) : gb114 ≠ gb102))
              have n12_ := Aside0.mk ((by rw [hg]; exact Nat.ne_of_lt (blk_lt (g := gb103) (o := .cells #[.int .u64 a2_0, .int .u64 a2_1, .int .u64 a2_2, .int .u64 a2_3] 33 (0, 0)) F4_) : gb103 ≠ gb114))
              have n13_ := Aside0.mk ((by rw [hg]; exact Nat.ne_of_gt (blk_lt (g := gb103) (o := .cells #[.int .u64 a2_0, .int .u64 a2_1, .int .u64 a2_2, .int .u64 a2_3] 33 (0, 0)) F4_) : gb114 ≠ gb103))
              clear HO_9
              clear BK101
              clear BK102
              clear BK103
              clear HB
              have HO_9 := n0_
              have BK101 := n1_
              have BK102 := n2_
              have BK103 := n3_
              have HB := n4_
              have BK114 := n5_
              have GW114 := n6_
              have GE114 := n7_
              have NB101_114 := n8_
              have NB114_101 := n9_
              have NB102_114 := n10_
              have NB114_102 := n11_
              have NB103_114 := n12_
              have NB114_103 := n13_
              clear n0_ n1_ n2_ n3_ n4_ n5_ n6_ n7_ n8_ n9_ n10_ n11_ n12_ n13_
              clear hb hbox hg
              refine hK.out _ _ ⟨(blk_cell BK101.out 0).trans rfl, (blk_cell BK101.out 1).trans rfl, (blk_cell BK101.out 2).trans rfl, (blk_cell BK102.out 0).trans rfl, (blk_cell BK102.out 1).trans rfl, (blk_cell BK102.out 2).trans rfl, (blk_cell BK103.out 0).trans rfl, (blk_cell BK103.out 1).trans rfl, (blk_cell BK103.out 2).trans rfl, (blk_cell BK103.out 3).trans rfl, HS10_⟩ (fun hHeld => ?_)
              clear hK K
              refine norm_ (a' := ?_) ?_ ?_
              rotate_left
              ·show Act.put _ (some 12) _ = _
               simp only [Act.put, List.setIfInBounds_toArray, List.set_cons_zero, List.set_cons_succ, i64_w, i32_w]
               rfl
              refine one_ (i := 7) (N := some 41) #[true, true, true, true, true, true, true, true, false, false, false, true, false, false] rfl rfl (one_of HT_.out (by kernel_rfl)) (by decide) (fun K hK => ?_)
              refine goes_ Try.func115 (by kernel_rfl) rfl #[.agg #[.slice A0_0 l0_0.length c0_0, .slice A0_1 l0_1.length c0_1, .slice A0_2 l0_2.length c0_2], .agg #[.slice A1_0 l1_0.length c1_0, .int .i64 a1_1, .int .i64 a1_2], .int .i64 (rd t104 x11_1), .agg #[.int .u64 a2_0, .int .u64 a2_1, .int .u64 a2_2, .int .u64 a2_3]] (by rfl) rfl rfl F11_ ?_
              with_reducible refine (dunnageref14_Left.calls kj28 _ _ l0_0 _ _ l0_1 _ _ l0_2 _ _ l1_0 a1_1 a1_2 (rd t104 x11_1) a2_0 a2_1 a2_2 a2_3 t109 t110 t111 t112 t113 _ ?side1 ?side2 ?side3 ?side4 ?side5 ?side6 ?side7 ?side8 A34.out).mono ?_
              (case side1 => exact F12_)
              (case side2 => exact HC0_0.out)
              (case side3 => exact F13_)
              (case side4 => exact HC0_1.out)
              (case side5 => exact F14_)
              (case side6 => exact HC0_2.out)
              (case side7 => exact F15_)
              (case side8 => exact HC1_0.out)
              rintro e w69 ⟨rfl, hb⟩
              have HS10_ := (hb.cell (World.block_lt_of_cell? _ _ (hHeld.2.2.2.2.2.2.2.2.2.2))).trans (hHeld.2.2.2.2.2.2.2.2.2.2)
              refine ⟨_, rfl, ?_⟩
              have n0_ := Aside0.mk (Kd.R_below F7_ hb)
              have n1_ := Aside0.mk (blk_below (g := gb101) (o := .cells #[.slice A0_0 l0_0.length c0_0, .slice A0_1 l0_1.length c0_1, .slice A0_2 l0_2.length c0_2] 96 (0, 0)) F1_ hb)
              have n2_ := Aside0.mk (blk_below (g := gb102) (o := .cells #[.slice A1_0 l1_0.length c1_0, .int .i64 a1_1, .int .i64 a1_2] 26 (0, 0)) F2_ hb)
              have n3_ := Aside0.mk (blk_below (g := gb103) (o := .cells #[.int .u64 a2_0, .int .u64 a2_1, .int .u64 a2_2, .int .u64 a2_3] 33 (0, 0)) F4_ hb)
              have n4_ := Aside0.mk (blk_below (g := gb114) (o := .cells #[.int .u64 0, .int .u64 0, .int .u64 0, .int .u64 0] 33 (0, 0)) F6_ hb)
              have n5_ := Aside0.mk (below_step F3_ hb)
              clear HO_9
              clear BK101
              clear BK102
              clear BK103
              clear BK114
              clear HB
              have HO_9 := n0_
              have BK101 := n1_
              have BK102 := n2_
              have BK103 := n3_
              have BK114 := n4_
              have HB := n5_
              clear n0_ n1_ n2_ n3_ n4_ n5_
              (try clear hb)
              (try clear hb2)
              (try clear hk)
              (try clear hi)
              refine hK.out _ _ ⟨(blk_cell BK101.out 0).trans rfl, (blk_cell BK101.out 1).trans rfl, (blk_cell BK101.out 2).trans rfl, (blk_cell BK102.out 0).trans rfl, (blk_cell BK102.out 1).trans rfl, (blk_cell BK102.out 2).trans rfl, (blk_cell BK103.out 0).trans rfl, (blk_cell BK103.out 1).trans rfl, (blk_cell BK103.out 2).trans rfl, (blk_cell BK103.out 3).trans rfl, HS10_⟩ (fun hHeld => ?_)
              clear hK K
              refine norm_ (a' := ?_) ?_ ?_
              rotate_left
              ·show Act.put _ (some 41) _ = _
               simp only [Act.put, List.setIfInBounds_toArray, List.set_cons_zero, List.set_cons_succ, i64_w, i32_w]
               rfl
              refine pure_ (i := 8) (N := some 33) (v := ?_) (a' := ?_) #[true, true, true, true, true, true, true, true, true, false, false, true, false, false] rfl rfl (any_of HT_.out (by kernel_rfl)) (fun _ _ _ h => h) (Or.inl ⟨by rfl, ?_⟩) ?_ ?_
              rotate_left
              ·intro w'
               go_simp
               with_reducible rfl
              rotate_left
              ·simp only [Act.put, List.setIfInBounds_toArray, List.set_cons_zero, List.set_cons_succ, i64_w, i32_w]
               rfl
              refine pure_ (i := 9) (N := some 42) (v := ?_) (a' := ?_) #[true, true, true, true, true, true, true, true, true, true, false, true, false, false] rfl rfl (any_of HT_.out (by kernel_rfl)) (fun _ _ _ h => h) (Or.inl ⟨by rfl, ?_⟩) ?_ ?_
              rotate_left
              ·intro w'
               go_simp
               with_reducible rfl
              rotate_left
              ·simp only [Act.put, List.setIfInBounds_toArray, List.set_cons_zero, List.set_cons_succ, i64_w, i32_w]
               rfl
              refine pure_ (i := 10) (N := some 43) (v := ?_) (a' := ?_) #[true, true, true, true, true, true, true, true, true, true, true, true, false, false] rfl rfl (any_of HT_.out (by kernel_rfl)) (fun _ _ _ h => h) (Or.inl ⟨by rfl, ?_⟩) ?_ ?_
              rotate_left
              ·intro w'
               go_simp
               with_reducible rfl
              rotate_left
              ·simp only [Act.put, List.setIfInBounds_toArray, List.set_cons_zero, List.set_cons_succ, i64_w, i32_w]
               rfl
              exact norm_ F21_ (hCont (gb114) _ ⟨hHeld, F7_, F1_, F2_, F4_, F6_, GW114.out, GE114.out, NB101_114.out, NB114_101.out, NB102_114.out, NB114_102.out, NB103_114.out, NB114_103.out, F3_⟩)
            rintro gb114 w70 ⟨hS_, h0_, h1_, h2_, h3_, h4_, h5_, h6_, h7_, h8_, h9_, h10_, h11_, h12_, h13_⟩
            have n0_ : Aside0 (Kd.R (Kd.int .i64) 3 w70 w.heap.size (fun _ => True) (.slice (some ad108) t104.length co28) t104) := ⟨h0_⟩
            have n1_ : Aside0 (w70.heap[gb101]? = some (.cells #[.slice A0_0 l0_0.length c0_0, .slice A0_1 l0_1.length c0_1, .slice A0_2 l0_2.length c0_2] 96 (0, 0))) := ⟨h1_⟩
            have n2_ : Aside0 (w70.heap[gb102]? = some (.cells #[.slice A1_0 l1_0.length c1_0, .int .i64 a1_1, .int .i64 a1_2] 26 (0, 0))) := ⟨h2_⟩
            have n3_ : Aside0 (w70.heap[gb103]? = some (.cells #[.int .u64 a2_0, .int .u64 a2_1, .int .u64 a2_2, .int .u64 a2_3] 33 (0, 0))) := ⟨h3_⟩
            have n4_ : Aside0 (w70.heap[gb114]? = some (.cells #[.int .u64 0, .int .u64 0, .int .u64 0, .int .u64 0] 33 (0, 0))) := ⟨h4_⟩
            have n5_ : Aside0 (w.heap.size ≤ gb114) := ⟨h5_⟩
            have n6_ : Aside0 (w.heap.size ≤ gb114) := ⟨h6_⟩
            have n7_ : Aside0 (gb101 ≠ gb114) := ⟨h7_⟩
            have n8_ : Aside0 (gb114 ≠ gb101) := ⟨h8_⟩
            have n9_ : Aside0 (gb102 ≠ gb114) := ⟨h9_⟩
            have n10_ : Aside0 (gb114 ≠ gb102) := ⟨h10_⟩
            have n11_ : Aside0 (gb103 ≠ gb114) := ⟨h11_⟩
            have n12_ : Aside0 (gb114 ≠ gb103) := ⟨h12_⟩
            have n13_ : Aside0 (Below w.heap.size w w70) := ⟨h13_⟩
            clear HO_9
            clear BK101
            clear BK102
            clear BK103
            clear HB
            clear h0_ h1_ h2_ h3_ h4_ h5_ h6_ h7_ h8_ h9_ h10_ h11_ h12_ h13_
            have HO_9 := n0_
            have BK101 := n1_
            have BK102 := n2_
            have BK103 := n3_
            have BK114 := n4_
            have GW114 := n5_
            have GE114 := n6_
            have NB101_114 := n7_
            have NB114_101 := n8_
            have NB102_114 := n9_
            have NB114_102 := n10_
            have NB103_114 := n11_
            have NB114_103 := n12_
            have HB := n13_
            clear n0_ n1_ n2_ n3_ n4_ n5_ n6_ n7_ n8_ n9_ n10_ n11_ n12_ n13_
            have hHeld : w70.cell? ⟨gb101, 0, none⟩ = some (.slice A0_0 l0_0.length c0_0) ∧ w70.cell? ⟨gb101, 1, none⟩ = some (.slice A0_1 l0_1.length c0_1) ∧ w70.cell? ⟨gb101, 2, none⟩ = some (.slice A0_2 l0_2.length c0_2) ∧ w70.cell? ⟨gb102, 0, none⟩ = some (.slice A1_0 l1_0.length c1_0) ∧ w70.cell? ⟨gb102, 1, none⟩ = some (.int .i64 a1_1) ∧ w70.cell? ⟨gb102, 2, none⟩ = some (.int .i64 a1_2) ∧ w70.cell? ⟨gb103, 0, none⟩ = some (.int .u64 a2_0) ∧ w70.cell? ⟨gb103, 1, none⟩ = some (.int .u64 a2_1) ∧ w70.cell? ⟨gb103, 2, none⟩ = some (.int .u64 a2_2) ∧ w70.cell? ⟨gb103, 3, none⟩ = some (.int .u64 a2_3) ∧ w70.cell? (ad108.add (x11_1).toNat) = some (.int .i64 (rd t104 x11_1)) := hS_
            refine norm_ (a' := ?_) ?_ ?_
            rotate_left
            ·simp only [putAll, Act.put, List.setIfInBounds_toArray, List.set_cons_zero, List.set_cons_succ]
             rfl
            refine one_ (i := 12) (N := none) #[true, true, true, true, true, true, true, true, true, true, true, true, true, false] rfl rfl (one_of HT_.out (by kernel_rfl)) (by decide) (fun K hK => ?_)
            have hs71 : w70.cell? ⟨gb114, 0, none⟩ = some (.int .u64 0) := (blk_cell BK114.out 0).trans rfl
            have hfs71 := blk_frozen BK114.out 0
            have hns71_0 := NB101_114.out
            have hns71_1 := NB102_114.out
            have hns71_2 := NB103_114.out
            have hms71_0 := NB114_101.out
            have hms71_1 := NB114_102.out
            have hms71_2 := NB114_103.out
            have hs72 : w70.cell? ⟨gb114, 1, none⟩ = some (.int .u64 0) := (blk_cell BK114.out 1).trans rfl
            have hfs72 := blk_frozen BK114.out 1
            have hns72_0 := NB101_114.out
            have hns72_1 := NB102_114.out
            have hns72_2 := NB103_114.out
            have hms72_0 := NB114_101.out
            have hms72_1 := NB114_102.out
            have hms72_2 := NB114_103.out
            have hs73 : w70.cell? ⟨gb114, 2, none⟩ = some (.int .u64 0) := (blk_cell BK114.out 2).trans rfl
            have hfs73 := blk_frozen BK114.out 2
            have hns73_0 := NB101_114.out
            have hns73_1 := NB102_114.out
            have hns73_2 := NB103_114.out
            have hms73_0 := NB114_101.out
            have hms73_1 := NB114_102.out
            have hms73_2 := NB114_103.out
            have hs74 : w70.cell? ⟨gb114, 3, none⟩ = some (.int .u64 0) := (blk_cell BK114.out 3).trans rfl
            have hfs74 := blk_frozen BK114.out 3
            have hns74_0 := NB101_114.out
            have hns74_1 := NB102_114.out
            have hns74_2 := NB103_114.out
            have hms74_0 := NB114_101.out
            have hms74_1 := NB114_102.out
            have hms74_2 := NB114_103.out
            refine skip_ (w1 := ?_) (by rfl) rfl ?_ ?_
            rotate_left
            ·go_simp
             rfl
            refine hK.out _ _ ⟨((cell_far (p := ⟨gb114, _, none⟩) NB101_114.out _).trans (((cell_far (p := ⟨gb114, _, none⟩) NB101_114.out _).trans (((cell_far (p := ⟨gb114, _, none⟩) NB101_114.out _).trans (((cell_far (p := ⟨gb114, _, none⟩) NB101_114.out _).trans (hHeld.1)))))))), ((cell_far (p := ⟨gb114, _, none⟩) NB101_114.out _).trans (((cell_far (p := ⟨gb114, _, none⟩) NB101_114.out _).trans (((cell_far (p := ⟨gb114, _, none⟩) NB101_114.out _).trans (((cell_far (p := ⟨gb114, _, none⟩) NB101_114.out _).trans (hHeld.2.1)))))))), ((cell_far (p := ⟨gb114, _, none⟩) NB101_114.out _).trans (((cell_far (p := ⟨gb114, _, none⟩) NB101_114.out _).trans (((cell_far (p := ⟨gb114, _, none⟩) NB101_114.out _).trans (((cell_far (p := ⟨gb114, _, none⟩) NB101_114.out _).trans (hHeld.2.2.1)))))))), ((cell_far (p := ⟨gb114, _, none⟩) NB102_114.out _).trans (((cell_far (p := ⟨gb114, _, none⟩) NB102_114.out _).trans (((cell_far (p := ⟨gb114, _, none⟩) NB102_114.out _).trans (((cell_far (p := ⟨gb114, _, none⟩) NB102_114.out _).trans (hHeld.2.2.2.1)))))))), ((cell_far (p := ⟨gb114, _, none⟩) NB102_114.out _).trans (((cell_far (p := ⟨gb114, _, none⟩) NB102_114.out _).trans (((cell_far (p := ⟨gb114, _, none⟩) NB102_114.out _).trans (((cell_far (p := ⟨gb114, _, none⟩) NB102_114.out _).trans (hHeld.2.2.2.2.1)))))))), ((cell_far (p := ⟨gb114, _, none⟩) NB102_114.out _).trans (((cell_far (p := ⟨gb114, _, none⟩) NB102_114.out _).trans (((cell_far (p := ⟨gb114, _, none⟩) NB102_114.out _).trans (((cell_far (p := ⟨gb114, _, none⟩) NB102_114.out _).trans (hHeld.2.2.2.2.2.1)))))))), ((cell_far (p := ⟨gb114, _, none⟩) NB103_114.out _).trans (((cell_far (p := ⟨gb114, _, none⟩) NB103_114.out _).trans (((cell_far (p := ⟨gb114, _, none⟩) NB103_114.out _).trans (((cell_far (p := ⟨gb114, _, none⟩) NB103_114.out _).trans (hHeld.2.2.2.2.2.2.1)))))))), ((cell_far (p := ⟨gb114, _, none⟩) NB103_114.out _).trans (((cell_far (p := ⟨gb114, _, none⟩) NB103_114.out _).trans (((cell_far (p := ⟨gb114, _, none⟩) NB103_114.out _).trans (((cell_far (p := ⟨gb114, _, none⟩) NB103_114.out _).trans (hHeld.2.2.2.2.2.2.2.1)))))))), ((cell_far (p := ⟨gb114, _, none⟩) NB103_114.out _).trans (((cell_far (p := ⟨gb114, _, none⟩) NB103_114.out _).trans (((cell_far (p := ⟨gb114, _, none⟩) NB103_114.out _).trans (((cell_far (p := ⟨gb114, _, none⟩) NB103_114.out _).trans (hHeld.2.2.2.2.2.2.2.2.1)))))))), ((cell_far (p := ⟨gb114, _, none⟩) NB103_114.out _).trans (((cell_far (p := ⟨gb114, _, none⟩) NB103_114.out _).trans (((cell_far (p := ⟨gb114, _, none⟩) NB103_114.out _).trans (((cell_far (p := ⟨gb114, _, none⟩) NB103_114.out _).trans (hHeld.2.2.2.2.2.2.2.2.2.1)))))))), ((cell_far (p := ⟨gb114, _, none⟩) F8_ _).trans (((cell_far (p := ⟨gb114, _, none⟩) F8_ _).trans (((cell_far (p := ⟨gb114, _, none⟩) F8_ _).trans (((cell_far (p := ⟨gb114, _, none⟩) F8_ _).trans (hHeld.2.2.2.2.2.2.2.2.2.2))))))))⟩ (fun hHeld => ?_)
            clear hK K
            refine pure_ (i := 13) (N := some 13) (v := ?_) (a' := ?_) #[true, true, true, true, true, true, true, true, true, true, true, true, true, true] rfl rfl (any_of HT_.out (by kernel_rfl)) (fun _ _ _ h => h) (Or.inl ⟨by rfl, ?_⟩) ?_ ?_
            rotate_left
            ·intro w'
             go_simp
             with_reducible rfl
            rotate_left
            ·simp only [Act.put, List.setIfInBounds_toArray, List.set_cons_zero, List.set_cons_succ, i64_w, i32_w]
             rfl
            refine done_ (done_of HT_.out (by kernel_rfl)) ?_
            try go_wp2
            have n0_ : Aside0 (Kd.R (Kd.int .i64) 3 ((((w70.setCell ⟨gb114, 0, none⟩ (.int .u64 t109)).setCell ⟨gb114, 1, none⟩ (.int .u64 t110)).setCell ⟨gb114, 2, none⟩ (.int .u64 t111)).setCell ⟨gb114, 3, none⟩ (.int .u64 t112)) w.heap.size (fun _ => True) (.slice (some ad108) t104.length co28) t104) := ⟨F36_⟩
            have n1_ : Aside0 (((((w70.setCell ⟨gb114, 0, none⟩ (.int .u64 t109)).setCell ⟨gb114, 1, none⟩ (.int .u64 t110)).setCell ⟨gb114, 2, none⟩ (.int .u64 t111)).setCell ⟨gb114, 3, none⟩ (.int .u64 t112)).heap[gb101]? = some (.cells #[.slice A0_0 l0_0.length c0_0, .slice A0_1 l0_1.length c0_1, .slice A0_2 l0_2.length c0_2] 96 (0, 0))) := ⟨F27_⟩
            have n2_ : Aside0 (((((w70.setCell ⟨gb114, 0, none⟩ (.int .u64 t109)).setCell ⟨gb114, 1, none⟩ (.int .u64 t110)).setCell ⟨gb114, 2, none⟩ (.int .u64 t111)).setCell ⟨gb114, 3, none⟩ (.int .u64 t112)).heap[gb102]? = some (.cells #[.slice A1_0 l1_0.length c1_0, .int .i64 a1_1, .int .i64 a1_2] 26 (0, 0))) := ⟨F28_⟩
            have n3_ : Aside0 (((((w70.setCell ⟨gb114, 0, none⟩ (.int .u64 t109)).setCell ⟨gb114, 1, none⟩ (.int .u64 t110)).setCell ⟨gb114, 2, none⟩ (.int .u64 t111)).setCell ⟨gb114, 3, none⟩ (.int .u64 t112)).heap[gb103]? = some (.cells #[.int .u64 a2_0, .int .u64 a2_1, .int .u64 a2_2, .int .u64 a2_3] 33 (0, 0))) := ⟨F29_⟩
            have n4_ : Aside0 (((((w70.setCell ⟨gb114, 0, none⟩ (.int .u64 t109)).setCell ⟨gb114, 1, none⟩ (.int .u64 t110)).setCell ⟨gb114, 2, none⟩ (.int .u64 t111)).setCell ⟨gb114, 3, none⟩ (.int .u64 t112)).heap[gb114]? = some (.cells #[.int .u64 t109, .int .u64 t110, .int .u64 t111, .int .u64 t112] 33 (0, 0))) := ⟨F19_⟩
            have n5_ : Aside0 (Below w.heap.size w ((((w70.setCell ⟨gb114, 0, none⟩ (.int .u64 t109)).setCell ⟨gb114, 1, none⟩ (.int .u64 t110)).setCell ⟨gb114, 2, none⟩ (.int .u64 t111)).setCell ⟨gb114, 3, none⟩ (.int .u64 t112))) := ⟨F40_⟩
            (try clear HO_9)
            (try clear BK101)
            (try clear BK102)
            (try clear BK103)
            (try clear BK114)
            (try clear HB)
            generalize ((((w70.setCell ⟨gb114, 0, none⟩ (.int .u64 t109)).setCell ⟨gb114, 1, none⟩ (.int .u64 t110)).setCell ⟨gb114, 2, none⟩ (.int .u64 t111)).setCell ⟨gb114, 3, none⟩ (.int .u64 t112)) = w75 at n0_ n1_ n2_ n3_ n4_ n5_ ⊢
            have HO_9 := n0_
            have BK101 := n1_
            have BK102 := n2_
            have BK103 := n3_
            have BK114 := n4_
            have HB := n5_
            clear n0_ n1_ n2_ n3_ n4_ n5_
            have n0_ := Aside0.mk (Kd.R_drew HO_9.out)
            have n1_ := Aside0.mk (blk_drew BK101.out)
            have n2_ := Aside0.mk (blk_drew BK102.out)
            have n3_ := Aside0.mk (blk_drew BK103.out)
            have n4_ := Aside0.mk (blk_drew BK114.out)
            have n5_ := Aside0.mk (below_drew1 HB.out)
            clear HO_9
            clear BK101
            clear BK102
            clear BK103
            clear BK114
            clear HB
            have HO_9 := n0_
            have BK101 := n1_
            have BK102 := n2_
            have BK103 := n3_
            have BK114 := n4_
            have HB := n5_
            clear n0_ n1_ n2_ n3_ n4_ n5_
            have p115 : 0 ≤ (x10_1 : Int) := of_decide_eq_true F34_
            have q115 : x10_1 < (t104.length : Int) := of_decide_eq_true F34_
            obtain ⟨ad115, e115, hx115_0⟩ := Kd.at_int (Kd.R_reads' HO_9.out).2.2 x10_1 p115 q115
            obtain rfl : ad108 = ad115 := (by injection e115)
            replace p115 := eq_true p115
            replace q115 := eq_true q115
            refine start_ (n := 14) (S := fun w' => w'.cell? ⟨gb101, 0, none⟩ = some (.slice A0_0 l0_0.length c0_0) ∧ w'.cell? ⟨gb101, 1, none⟩ = some (.slice A0_1 l0_1.length c0_1) ∧ w'.cell? ⟨gb101, 2, none⟩ = some (.slice A0_2 l0_2.length c0_2) ∧ w'.cell? ⟨gb102, 0, none⟩ = some (.slice A1_0 l1_0.length c1_0) ∧ w'.cell? ⟨gb102, 1, none⟩ = some (.int .i64 a1_1) ∧ w'.cell? ⟨gb102, 2, none⟩ = some (.int .i64 a1_2) ∧ w'.cell? ⟨gb103, 0, none⟩ = some (.int .u64 a2_0) ∧ w'.cell? ⟨gb103, 1, none⟩ = some (.int .u64 a2_1) ∧ w'.cell? ⟨gb103, 2, none⟩ = some (.int .u64 a2_2) ∧ w'.cell? ⟨gb103, 3, none⟩ = some (.int .u64 a2_3) ∧ w'.cell? (ad108.add (x10_1).toNat) = some (.int .i64 (rd t104 x10_1))) (ds := []) #[false, false, false, false, false, false, false, false, false, false, false, false, false, false] (by kernel_rfl) rfl rfl ⟨(blk_cell BK101.out 0).trans rfl, (blk_cell BK101.out 1).trans rfl, (blk_cell BK101.out 2).trans rfl, (blk_cell BK102.out 0).trans rfl, (blk_cell BK102.out 1).trans rfl, (blk_cell BK102.out 2).trans rfl, (blk_cell BK103.out 0).trans rfl, (blk_cell BK103.out 1).trans rfl, (blk_cell BK103.out 2).trans rfl, (blk_cell BK103.out 3).trans rfl, hx115_0⟩ (fun hHeld => ?_); refine with_tabW dunnageref14_One.tab9 dunnageref14_One.bits9 (fun HT_ HW_ => ?_)
            generalize w75.drew = w76 at HO_9 BK101 BK102 BK103 BK114 HB hx115_0 hHeld ⊢
            refine pure_ (i := 2) (N := some 47) (v := ?_) (a' := ?_) #[false, false, true, false, false, false, false, false, false, false, false, false, false, false] rfl rfl (any_of HT_.out (by kernel_rfl)) (fun _ _ _ h => h) (Or.inl ⟨by rfl, ?_⟩) ?_ ?_
            rotate_left
            ·intro w'
             go_simp
             with_reducible rfl
            rotate_left
            ·simp only [Act.put, List.setIfInBounds_toArray, List.set_cons_zero, List.set_cons_succ, i64_w, i32_w]
             rfl
            refine pure_ (i := 3) (N := some 48) (v := ?_) (a' := ?_) #[false, false, true, true, false, false, false, false, false, false, false, false, false, false] rfl rfl (any_of HT_.out (by kernel_rfl)) (fun _ _ _ h => h) (Or.inl ⟨by rfl, ?_⟩) ?_ ?_
            rotate_left
            ·intro w'
             go_simp
             with_reducible rfl
            rotate_left
            ·simp only [Act.put, List.setIfInBounds_toArray, List.set_cons_zero, List.set_cons_succ, i64_w, i32_w]
             rfl
            refine pure_ (i := 4) (N := some 49) (v := ?_) (a' := ?_) #[false, false, true, true, true, false, false, false, false, false, false, false, false, false] rfl rfl (any_of HT_.out (by kernel_rfl)) (fun _ _ _ h => h) (Or.inl ⟨by rfl, ?_⟩) ?_ ?_
            rotate_left
            ·intro w'
             go_simp
             with_reducible rfl
            rotate_left
            ·simp only [Act.put, List.setIfInBounds_toArray, List.set_cons_zero, List.set_cons_succ, i64_w, i32_w]
             rfl
            refine take_ (i := 0) (N := some 45) (v := ?_) (a' := ?_) #[true, false, true, true, true, false, false, false, false, false, false, false, false, false] rfl rfl (take_ofW HT_.out HW_.out (by kernel_rfl)) (fun _ _ _ h => h) (Or.inl ⟨by rfl, ?_⟩) hHeld ?_ ?_
            rotate_left
            ·rintro w' ⟨s0, s1, s2, s3, s4, s5, s6, s7, s8, s9, s10⟩
             go_simp
             with_reducible rfl
            rotate_left
            ·simp only [Act.put, List.setIfInBounds_toArray, List.set_cons_zero, List.set_cons_succ, i64_w, i32_w]
             rfl
            refine take_ (i := 1) (N := some 46) (v := ?_) (a' := ?_) #[true, true, true, true, true, false, false, false, false, false, false, false, false, false] rfl rfl (take_ofW HT_.out HW_.out (by kernel_rfl)) (fun _ _ _ h => h) (Or.inl ⟨by rfl, ?_⟩) hHeld ?_ ?_
            rotate_left
            ·rintro w' ⟨s0, s1, s2, s3, s4, s5, s6, s7, s8, s9, s10⟩
             go_simp
             with_reducible rfl
            rotate_left
            ·simp only [Act.put, List.setIfInBounds_toArray, List.set_cons_zero, List.set_cons_succ, i64_w, i32_w]
             rfl
            refine take_ (i := 5) (N := some 50) (v := ?_) (a' := ?_) #[true, true, true, true, true, true, false, false, false, false, false, false, false, false] rfl rfl (take_ofW HT_.out HW_.out (by kernel_rfl)) (fun _ _ _ h => h) (Or.inl ⟨by rfl, ?_⟩) hHeld ?_ ?_
            rotate_left
            ·rintro w' ⟨s0, s1, s2, s3, s4, s5, s6, s7, s8, s9, s10⟩
             go_simp
             with_reducible rfl
            rotate_left
            ·simp only [Act.put, List.setIfInBounds_toArray, List.set_cons_zero, List.set_cons_succ, i64_w, i32_w]
             rfl
            refine take_ (i := 6) (N := some 51) (v := ?_) (a' := ?_) #[true, true, true, true, true, true, true, false, false, false, false, false, false, false] rfl rfl (take_ofW HT_.out HW_.out (by kernel_rfl)) (fun _ _ _ h => h) (Or.inl ⟨by rfl, ?_⟩) hHeld ?_ ?_
            rotate_left
            ·rintro w' ⟨s0, s1, s2, s3, s4, s5, s6, s7, s8, s9, s10⟩
             go_simp
             with_reducible rfl
            rotate_left
            ·simp only [Act.put, List.setIfInBounds_toArray, List.set_cons_zero, List.set_cons_succ, i64_w, i32_w]
             rfl
            refine join_ (σ := Nat) 2 #[true, true, true, true, true, true, true, true, true, true, true, true, false, false] (fun s_ => [(52, .tuple #[.agg #[.int .u64 t116, .int .u64 t117, .int .u64 t118, .int .u64 t119], .bool t120]), (14, .pointer (some ⟨s_, 0, none⟩)), (44, .tuple #[.agg #[.int .u64 t116, .int .u64 t117, .int .u64 t118, .int .u64 t119], .bool t120]), (53, .agg #[.int .u64 t116, .int .u64 t117, .int .u64 t118, .int .u64 t119]), (54, .bool t120)]) (fun s_ w' => (w'.cell? ⟨gb101, 0, none⟩ = some (.slice A0_0 l0_0.length c0_0) ∧ w'.cell? ⟨gb101, 1, none⟩ = some (.slice A0_1 l0_1.length c0_1) ∧ w'.cell? ⟨gb101, 2, none⟩ = some (.slice A0_2 l0_2.length c0_2) ∧ w'.cell? ⟨gb102, 0, none⟩ = some (.slice A1_0 l1_0.length c1_0) ∧ w'.cell? ⟨gb102, 1, none⟩ = some (.int .i64 a1_1) ∧ w'.cell? ⟨gb102, 2, none⟩ = some (.int .i64 a1_2) ∧ w'.cell? ⟨gb103, 0, none⟩ = some (.int .u64 a2_0) ∧ w'.cell? ⟨gb103, 1, none⟩ = some (.int .u64 a2_1) ∧ w'.cell? ⟨gb103, 2, none⟩ = some (.int .u64 a2_2) ∧ w'.cell? ⟨gb103, 3, none⟩ = some (.int .u64 a2_3) ∧ w'.cell? (ad108.add (x10_1).toNat) = some (.int .i64 (rd t104 x10_1))) ∧ (Kd.R (Kd.int .i64) 3 w' w.heap.size (fun _ => True) (.slice (some ad108) t104.length co28) t104) ∧ (w'.heap[gb101]? = some (.cells #[.slice A0_0 l0_0.length c0_0, .slice A0_1 l0_1.length c0_1, .slice A0_2 l0_2.length c0_2] 96 (0, 0))) ∧ (w'.heap[gb102]? = some (.cells #[.slice A1_0 l1_0.length c1_0, .int .i64 a1_1, .int .i64 a1_2] 26 (0, 0))) ∧ (w'.heap[gb103]? = some (.cells #[.int .u64 a2_0, .int .u64 a2_1, .int .u64 a2_2, .int .u64 a2_3] 33 (0, 0))) ∧ (w'.heap[gb114]? = some (.cells #[.int .u64 t109, .int .u64 t110, .int .u64 t111, .int .u64 t112] 33 (0, 0))) ∧ (w'.heap[s_]? = some (.cells #[.int .u64 0, .int .u64 0, .int .u64 0, .int .u64 0] 33 (0, 0))) ∧ (w.heap.size ≤ s_) ∧ (w.heap.size ≤ s_) ∧ (gb101 ≠ s_) ∧ (s_ ≠ gb101) ∧ (gb102 ≠ s_) ∧ (s_ ≠ gb102) ∧ (gb103 ≠ s_) ∧ (s_ ≠ gb103) ∧ (gb114 ≠ s_) ∧ (s_ ≠ gb114) ∧ (Below w.heap.size w w')) ?_ ?_
            rotate_left
            ·intro hCont
             refine two_ (i := 7) (j := 11) (Ni := some 52) (Nj := some 14) #[true, true, true, true, true, true, true, true, false, false, false, false, false, false] #[true, true, true, true, true, true, true, false, false, false, false, true, false, false] rfl rfl rfl rfl (two_of HT_.out (by kernel_rfl)) (by decide) (by decide) (fun K hK => ?_) (fun K hK => ?_)
             ·skip
              refine goes_ Try.func115 (by kernel_rfl) rfl #[.agg #[.slice A0_0 l0_0.length c0_0, .slice A0_1 l0_1.length c0_1, .slice A0_2 l0_2.length c0_2], .agg #[.slice A1_0 l1_0.length c1_0, .int .i64 a1_1, .int .i64 a1_2], .int .i64 (rd t104 x10_1), .agg #[.int .u64 a2_0, .int .u64 a2_1, .int .u64 a2_2, .int .u64 a2_3]] (by rfl) rfl rfl F11_ ?_
              with_reducible refine (dunnageref14_Left.calls kj28 _ _ l0_0 _ _ l0_1 _ _ l0_2 _ _ l1_0 a1_1 a1_2 (rd t104 x10_1) a2_0 a2_1 a2_2 a2_3 t116 t117 t118 t119 t120 _ ?side1 ?side2 ?side3 ?side4 ?side5 ?side6 ?side7 ?side8 A37.out).mono ?_
              (case side1 => exact F12_)
              (case side2 => exact HC0_0.out)
              (case side3 => exact F13_)
              (case side4 => exact HC0_1.out)
              (case side5 => exact F14_)
              (case side6 => exact HC0_2.out)
              (case side7 => exact F15_)
              (case side8 => exact HC1_0.out)
              rintro e w77 ⟨rfl, hb⟩
              have HS10_ := (hb.cell (World.block_lt_of_cell? _ _ (hHeld.2.2.2.2.2.2.2.2.2.2))).trans (hHeld.2.2.2.2.2.2.2.2.2.2)
              refine ⟨_, rfl, ?_⟩
              have n0_ := Aside0.mk (Kd.R_below F7_ hb)
              have n1_ := Aside0.mk (blk_below (g := gb101) (o := .cells #[.slice A0_0 l0_0.length c0_0, .slice A0_1 l0_1.length c0_1, .slice A0_2 l0_2.length c0_2] 96 (0, 0)) F1_ hb)
              have n2_ := Aside0.mk (blk_below (g := gb102) (o := .cells #[.slice A1_0 l1_0.length c1_0, .int .i64 a1_1, .int .i64 a1_2] 26 (0, 0)) F2_ hb)
              have n3_ := Aside0.mk (blk_below (g := gb103) (o := .cells #[.int .u64 a2_0, .int .u64 a2_1, .int .u64 a2_2, .int .u64 a2_3] 33 (0, 0)) F4_ hb)
              have n4_ := Aside0.mk (blk_below (g := gb114) (o := .cells #[.int .u64 t109, .int .u64 t110, .int .u64 t111, .int .u64 t112] 33 (0, 0)) F6_ hb)
              have n5_ := Aside0.mk (below_step F3_ hb)
              clear HO_9
              clear BK101
              clear BK102
              clear BK103
              clear BK114
              clear HB
              have HO_9 := n0_
              have BK101 := n1_
              have BK102 := n2_
              have BK103 := n3_
              have BK114 := n4_
              have HB := n5_
              clear n0_ n1_ n2_ n3_ n4_ n5_
              (try clear hb)
              (try clear hb2)
              (try clear hk)
              (try clear hi)
              refine hK.out _ _ ⟨(blk_cell BK101.out 0).trans rfl, (blk_cell BK101.out 1).trans rfl, (blk_cell BK101.out 2).trans rfl, (blk_cell BK102.out 0).trans rfl, (blk_cell BK102.out 1).trans rfl, (blk_cell BK102.out 2).trans rfl, (blk_cell BK103.out 0).trans rfl, (blk_cell BK103.out 1).trans rfl, (blk_cell BK103.out 2).trans rfl, (blk_cell BK103.out 3).trans rfl, HS10_⟩ (fun hHeld => ?_)
              clear hK K
              refine norm_ (a' := ?_) ?_ ?_
              rotate_left
              ·show Act.put _ (some 52) _ = _
               simp only [Act.put, List.setIfInBounds_toArray, List.set_cons_zero, List.set_cons_succ, i64_w, i32_w]
               rfl
              refine pure_ (i := 8) (N := some 44) (v := ?_) (a' := ?_) #[true, true, true, true, true, true, true, true, true, false, false, false, false, false] rfl rfl (any_of HT_.out (by kernel_rfl)) (fun _ _ _ h => h) (Or.inl ⟨by rfl, ?_⟩) ?_ ?_
              rotate_left
              ·intro w'
               go_simp
               with_reducible rfl
              rotate_left
              ·simp only [Act.put, List.setIfInBounds_toArray, List.set_cons_zero, List.set_cons_succ, i64_w, i32_w]
               rfl
              refine pure_ (i := 9) (N := some 53) (v := ?_) (a' := ?_) #[true, true, true, true, true, true, true, true, true, true, false, false, false, false] rfl rfl (any_of HT_.out (by kernel_rfl)) (fun _ _ _ h => h) (Or.inl ⟨by rfl, ?_⟩) ?_ ?_
              rotate_left
              ·intro w'
               go_simp
               with_reducible rfl
              rotate_left
              ·simp only [Act.put, List.setIfInBounds_toArray, List.set_cons_zero, List.set_cons_succ, i64_w, i32_w]
               rfl
              refine pure_ (i := 10) (N := some 54) (v := ?_) (a' := ?_) #[true, true, true, true, true, true, true, true, true, true, true, false, false, false] rfl rfl (any_of HT_.out (by kernel_rfl)) (fun _ _ _ h => h) (Or.inl ⟨by rfl, ?_⟩) ?_ ?_
              rotate_left
              ·intro w'
               go_simp
               with_reducible rfl
              rotate_left
              ·simp only [Act.put, List.setIfInBounds_toArray, List.set_cons_zero, List.set_cons_succ, i64_w, i32_w]
               rfl
              refine one_ (i := 11) (N := some 14) #[true, true, true, true, true, true, true, true, true, true, true, true, false, false] rfl rfl (one_of HT_.out (by kernel_rfl)) (by decide) (fun K hK => ?_)
              refine box_step ?hg (N := 14) ?hd (cs := #[.int .u64 0, .int .u64 0, .int .u64 0, .int .u64 0]) (t := 33) ?hr ?_; (case hd => rfl); (case hg => rfl); (case hr => first | (go_simp; done) | (go_simp; rfl))
              intro gb121 hg w78 hbox hb
              have HS10_ := (hb.cell (World.block_lt_of_cell? _ _ (hHeld.2.2.2.2.2.2.2.2.2.2))).trans (hHeld.2.2.2.2.2.2.2.2.2.2)
              have n0_ := Aside0.mk (Kd.R_below F7_ hb)
              have n1_ := Aside0.mk (blk_below (g := gb101) (o := .cells #[.slice A0_0 l0_0.length c0_0, .slice A0_1 l0_1.length c0_1, .slice A0_2 l0_2.length c0_2] 96 (0, 0)) F1_ hb)
              have n2_ := Aside0.mk (blk_below (g := gb102) (o := .cells #[.slice A1_0 l1_0.length c1_0, .int .i64 a1_1, .int .i64 a1_2] 26 (0, 0)) F2_ hb)
              have n3_ := Aside0.mk (blk_below (g := gb103) (o := .cells #[.int .u64 a2_0, .int .u64 a2_1, .int .u64 a2_2, .int .u64 a2_3] 33 (0, 0)) F4_ hb)
              have n4_ := Aside0.mk (blk_below (g := gb114) (o := .cells #[.int .u64 t109, .int .u64 t110, .int .u64 t111, .int .u64 t112] 33 (0, 0)) F6_ hb)
              have n5_ := Aside0.mk (below_step F3_ hb)
              have n6_ := Aside0.mk (hbox)
              have n7_ := Aside0.mk ((by rw [hg]; exact (below_size F3_) : w.heap.size ≤ gb121))
              have n8_ := Aside0.mk ((by rw [hg]; exact (below_size F3_) : w.heap.size ≤ gb121))
              have n9_ := Aside0.mk ((by rw [hg]; exact Nat.ne_of_lt (blk_lt (g := gb101) (o := .cells #[.slice A0_0 l0_0.length c0_0, .slice A0_1 l0_1.length c0_1, .slice A0_2 l0_2.length c0_2] 96 (0, 0)) F1_) : gb101 ≠ gb121))
              have n10_ := Aside0.mk ((by rw [hg]; exact Nat.ne_of_gt (blk_lt (g := gb101) (o := .cells #[.slice A0_0 l0_0.length c0_0, .slice A0_1 l0_1.length c0_1, .slice A0_2 l0_2.length c0_2] 96 (0, 0)) F1_) : gb121 ≠ gb101))
              have n11_ := Aside0.mk ((by rw [hg]; exact Nat.ne_of_lt (blk_lt (g := gb102) (o := .cells #[.slice A1_0 l1_0.length c1_0, .int .i64 a1_1, .int .i64 a1_2] 26 (0, 0)) F2_) : gb102 ≠ gb121))
              have n12_ := Aside0.mk ((by rw [hg]; exact Nat.ne_of_gt (blk_lt (g := gb102) (o := .cells #[.slice A1_0 l1_0.length c1_0, .int .i64 a1_1, .int .i64 a1_2] 26 (0, 0)) F2_) : gb121 ≠ gb102))
              have n13_ := Aside0.mk ((by rw [hg]; exact Nat.ne_of_lt (blk_lt (g := gb103) (o := .cells #[.int .u64 a2_0, .int .u64 a2_1, .int .u64 a2_2, .int .u64 a2_3] 33 (0, 0)) F4_) : gb103 ≠ gb121))
              have n14_ := Aside0.mk ((by rw [hg]; exact Nat.ne_of_gt (blk_lt (g := gb103) (o := .cells #[.int .u64 a2_0, .int .u64 a2_1, .int .u64 a2_2, .int .u64 a2_3] 33 (0, 0)) F4_) : gb121 ≠ gb103))
              have n15_ := Aside0.mk ((by rw [hg]; exact Nat.ne_of_lt (blk_lt (g := gb114) (o := .cells #[.int .u64 t109, .int .u64 t110, .int .u64 t111, .int .u64 t112] 33 (0, 0)) F6_) : gb114 ≠ gb121))
              have n16_ := Aside0.mk ((by rw [hg]; exact Nat.ne_of_gt (blk_lt (g := gb114) (o := .cells #[.int .u64 t109, .int .u64 t110, .int .u64 t111, .int .u64 t112] 33 (0, 0)) F6_) : gb121 ≠ gb114))
              clear HO_9
              clear BK101
              clear BK102
              clear BK103
              clear BK114
              clear HB
              have HO_9 := n0_
              have BK101 := n1_
              have BK102 := n2_
              have BK103 := n3_
              have BK114 := n4_
              have HB := n5_
              have BK121 := n6_
              have GW121 := n7_
              have GE121 := n8_
              have NB101_121 := n9_
              have NB121_101 := n10_
              have NB102_121 := n11_
              have NB121_102 := n12_
              have NB103_121 := n13_
              have NB121_103 := n14_
              have NB114_121 := n15_
              have NB121_114 := n16_
              clear n0_ n1_ n2_ n3_ n4_ n5_ n6_ n7_ n8_ n9_ n10_ n11_ n12_ n13_ n14_ n15_ n16_
              clear hb hbox hg
              refine hK.out _ _ ⟨(blk_cell BK101.out 0).trans rfl, (blk_cell BK101.out 1).trans rfl, (blk_cell BK101.out 2).trans rfl, (blk_cell BK102.out 0).trans rfl, (blk_cell BK102.out 1).trans rfl, (blk_cell BK102.out 2).trans rfl, (blk_cell BK103.out 0).trans rfl, (blk_cell BK103.out 1).trans rfl, (blk_cell BK103.out 2).trans rfl, (blk_cell BK103.out 3).trans rfl, HS10_⟩ (fun hHeld => ?_)
              clear hK K
              refine norm_ (a' := ?_) ?_ ?_
              rotate_left
              ·show Act.put _ (some 14) _ = _
               simp only [Act.put, List.setIfInBounds_toArray, List.set_cons_zero, List.set_cons_succ, i64_w, i32_w]
               rfl
              exact norm_ F21_ (hCont (gb121) _ ⟨hHeld, F7_, F1_, F2_, F4_, F6_, F30_, GW121.out, GE121.out, NB101_121.out, NB121_101.out, NB102_121.out, NB121_102.out, NB103_121.out, NB121_103.out, NB114_121.out, NB121_114.out, F10_⟩)
             ·skip
              refine box_step ?hg (N := 14) ?hd (cs := #[.int .u64 0, .int .u64 0, .int .u64 0, .int .u64 0]) (t := 33) ?hr ?_; (case hd => rfl); (case hg => rfl); (case hr => first | (go_simp; done) | (go_simp; rfl))
              intro gb121 hg w77 hbox hb
              have HS10_ := (hb.cell (World.block_lt_of_cell? _ _ (hHeld.2.2.2.2.2.2.2.2.2.2))).trans (hHeld.2.2.2.2.2.2.2.2.2.2)
              have n0_ := Aside0.mk (Kd.R_below F7_ hb)
              have n1_ := Aside0.mk (blk_below (g := gb101) (o := .cells #[.slice A0_0 l0_0.length c0_0, .slice A0_1 l0_1.length c0_1, .slice A0_2 l0_2.length c0_2] 96 (0, 0)) F1_ hb)
              have n2_ := Aside0.mk (blk_below (g := gb102) (o := .cells #[.slice A1_0 l1_0.length c1_0, .int .i64 a1_1, .int .i64 a1_2] 26 (0, 0)) F2_ hb)
              have n3_ := Aside0.mk (blk_below (g := gb103) (o := .cells #[.int .u64 a2_0, .int .u64 a2_1, .int .u64 a2_2, .int .u64 a2_3] 33 (0, 0)) F4_ hb)
              have n4_ := Aside0.mk (blk_below (g := gb114) (o := .cells #[.int .u64 t109, .int .u64 t110, .int .u64 t111, .int .u64 t112] 33 (0, 0)) F6_ hb)
              have n5_ := Aside0.mk (below_step F3_ hb)
              have n6_ := Aside0.mk (hbox)
              have n7_ := Aside0.mk ((by rw [hg]; exact (below_size F3_) : w.heap.size ≤ gb121))
              have n8_ := Aside0.mk ((by rw [hg]; exact (below_size F3_) : w.heap.size ≤ gb121))
              have n9_ := Aside0.mk ((by rw [hg]; exact Nat.ne_of_lt (blk_lt (g := gb101) (o := .cells #[.slice A0_0 l0_0.length c0_0, .slice A0_1 l0_1.length c0_1, .slice A0_2 l0_2.length c0_2] 96 (0, 0)) F1_) : gb101 ≠ gb121))
              have n10_ := Aside0.mk ((by rw [hg]; exact Nat.ne_of_gt (blk_lt (g := gb101) (o := .cells #[.slice A0_0 l0_0.length c0_0, .slice A0_1 l0_1.length c0_1, .slice A0_2 l0_2.length c0_2] 96 (0, 0)) F1_) : gb121 ≠ gb101))
              have n11_ := Aside0.mk ((by rw [hg]; exact Nat.ne_of_lt (blk_lt (g := gb102) (o := .cells #[.slice A1_0 l1_0.length c1_0, .int .i64 a1_1, .int .i64 a1_2] 26 (0, 0)) F2_) : gb102 ≠ gb121))
              have n12_ := Aside0.mk ((by rw [hg]; exact Nat.ne_of_gt (blk_lt (g := gb102) (o := .cells #[.slice A1_0 l1_0.length c1_0, .int .i64 a1_1, .int .i64 a1_2] 26 (0, 0)) F2_) : gb121 ≠ gb102))
              have n13_ := Aside0.mk ((by rw [hg]; exact Nat.ne_of_lt (blk_lt (g := gb103) (o := .cells #[.int .u64 a2_0, .int .u64 a2_1, .int .u64 a2_2, .int .u64 a2_3] 33 (0, 0)) F4_) : gb103 ≠ gb121))
              have n14_ := Aside0.mk ((by rw [hg]; exact Nat.ne_of_gt (blk_lt (g := gb103) (o := .cells #[.int .u64 a2_0, .int .u64 a2_1, .int .u64 a2_2, .int .u64 a2_3] 33 (0, 0)) F4_) : gb121 ≠ gb103))
              have n15_ := Aside0.mk ((by rw [hg]; exact Nat.ne_of_lt (blk_lt (g := gb114) (o := .cells #[.int .u64 t109, .int .u64 t110, .int .u64 t111, .int .u64 t112] 33 (0, 0)) F6_) : gb114 ≠ gb121))
              have n16_ := Aside0.mk ((by rw [hg]; exact Nat.ne_of_gt (blk_lt (g := gb114) (o := .cells #[.int .u64 t109, .int .u64 t110, .int .u64 t111, .int .u64 t112] 33 (0, 0)) F6_) : gb121 ≠ gb114))
              clear HO_9
              clear BK101
              clear BK102
              clear BK103
              clear BK114
              clear HB
              have HO_9 := n0_
              have BK101 := n1_
              have BK102 := n2_
              have BK103 := n3_
              have BK114 := n4_
              have HB := n5_
              have BK121 := n6_
              have GW121 := n7_
              have GE121 := n8_
              have NB101_121 := n9_
              have NB121_101 := n10_
              have NB102_121 := n11_
              have NB121_102 := n12_
              have NB103_121 := n13_
              have NB121_103 := n14_
              have NB114_121 := n15_
              have NB121_114 := n16_
              clear n0_ n1_ n2_ n3_ n4_ n5_ n6_ n7_ n8_ n9_ n10_ n11_ n12_ n13_ n14_ n15_ n16_
              clear hb hbox hg
              refine hK.out _ _ ⟨(blk_cell BK101.out 0).trans rfl, (blk_cell BK101.out 1).trans rfl, (blk_cell BK101.out 2).trans rfl, (blk_cell BK102.out 0).trans rfl, (blk_cell BK102.out 1).trans rfl, (blk_cell BK102.out 2).trans rfl, (blk_cell BK103.out 0).trans rfl, (blk_cell BK103.out 1).trans rfl, (blk_cell BK103.out 2).trans rfl, (blk_cell BK103.out 3).trans rfl, HS10_⟩ (fun hHeld => ?_)
              clear hK K
              refine norm_ (a' := ?_) ?_ ?_
              rotate_left
              ·show Act.put _ (some 14) _ = _
               simp only [Act.put, List.setIfInBounds_toArray, List.set_cons_zero, List.set_cons_succ, i64_w, i32_w]
               rfl
              refine one_ (i := 7) (N := some 52) #[true, true, true, true, true, true, true, true, false, false, false, true, false, false] rfl rfl (one_of HT_.out (by kernel_rfl)) (by decide) (fun K hK => ?_)
              refine goes_ Try.func115 (by kernel_rfl) rfl #[.agg #[.slice A0_0 l0_0.length c0_0, .slice A0_1 l0_1.length c0_1, .slice A0_2 l0_2.length c0_2], .agg #[.slice A1_0 l1_0.length c1_0, .int .i64 a1_1, .int .i64 a1_2], .int .i64 (rd t104 x10_1), .agg #[.int .u64 a2_0, .int .u64 a2_1, .int .u64 a2_2, .int .u64 a2_3]] (by rfl) rfl rfl F11_ ?_
              with_reducible refine (dunnageref14_Left.calls kj28 _ _ l0_0 _ _ l0_1 _ _ l0_2 _ _ l1_0 a1_1 a1_2 (rd t104 x10_1) a2_0 a2_1 a2_2 a2_3 t116 t117 t118 t119 t120 _ ?side1 ?side2 ?side3 ?side4 ?side5 ?side6 ?side7 ?side8 A37.out).mono ?_
              (case side1 => exact F12_)
              (case side2 => exact HC0_0.out)
              (case side3 => exact F13_)
              (case side4 => exact HC0_1.out)
              (case side5 => exact F14_)
              (case side6 => exact HC0_2.out)
              (case side7 => exact F15_)
              (case side8 => exact HC1_0.out)
              rintro e w78 ⟨rfl, hb⟩
              have HS10_ := (hb.cell (World.block_lt_of_cell? _ _ (hHeld.2.2.2.2.2.2.2.2.2.2))).trans (hHeld.2.2.2.2.2.2.2.2.2.2)
              refine ⟨_, rfl, ?_⟩
              have n0_ := Aside0.mk (Kd.R_below F7_ hb)
              have n1_ := Aside0.mk (blk_below (g := gb101) (o := .cells #[.slice A0_0 l0_0.length c0_0, .slice A0_1 l0_1.length c0_1, .slice A0_2 l0_2.length c0_2] 96 (0, 0)) F1_ hb)
              have n2_ := Aside0.mk (blk_below (g := gb102) (o := .cells #[.slice A1_0 l1_0.length c1_0, .int .i64 a1_1, .int .i64 a1_2] 26 (0, 0)) F2_ hb)
              have n3_ := Aside0.mk (blk_below (g := gb103) (o := .cells #[.int .u64 a2_0, .int .u64 a2_1, .int .u64 a2_2, .int .u64 a2_3] 33 (0, 0)) F4_ hb)
              have n4_ := Aside0.mk (blk_below (g := gb114) (o := .cells #[.int .u64 t109, .int .u64 t110, .int .u64 t111, .int .u64 t112] 33 (0, 0)) F6_ hb)
              have n5_ := Aside0.mk (blk_below (g := gb121) (o := .cells #[.int .u64 0, .int .u64 0, .int .u64 0, .int .u64 0] 33 (0, 0)) F30_ hb)
              have n6_ := Aside0.mk (below_step F10_ hb)
              clear HO_9
              clear BK101
              clear BK102
              clear BK103
              clear BK114
              clear BK121
              clear HB
              have HO_9 := n0_
              have BK101 := n1_
              have BK102 := n2_
              have BK103 := n3_
              have BK114 := n4_
              have BK121 := n5_
              have HB := n6_
              clear n0_ n1_ n2_ n3_ n4_ n5_ n6_
              (try clear hb)
              (try clear hb2)
              (try clear hk)
              (try clear hi)
              refine hK.out _ _ ⟨(blk_cell BK101.out 0).trans rfl, (blk_cell BK101.out 1).trans rfl, (blk_cell BK101.out 2).trans rfl, (blk_cell BK102.out 0).trans rfl, (blk_cell BK102.out 1).trans rfl, (blk_cell BK102.out 2).trans rfl, (blk_cell BK103.out 0).trans rfl, (blk_cell BK103.out 1).trans rfl, (blk_cell BK103.out 2).trans rfl, (blk_cell BK103.out 3).trans rfl, HS10_⟩ (fun hHeld => ?_)
              clear hK K
              refine norm_ (a' := ?_) ?_ ?_
              rotate_left
              ·show Act.put _ (some 52) _ = _
               simp only [Act.put, List.setIfInBounds_toArray, List.set_cons_zero, List.set_cons_succ, i64_w, i32_w]
               rfl
              refine pure_ (i := 8) (N := some 44) (v := ?_) (a' := ?_) #[true, true, true, true, true, true, true, true, true, false, false, true, false, false] rfl rfl (any_of HT_.out (by kernel_rfl)) (fun _ _ _ h => h) (Or.inl ⟨by rfl, ?_⟩) ?_ ?_
              rotate_left
              ·intro w'
               go_simp
               with_reducible rfl
              rotate_left
              ·simp only [Act.put, List.setIfInBounds_toArray, List.set_cons_zero, List.set_cons_succ, i64_w, i32_w]
               rfl
              refine pure_ (i := 9) (N := some 53) (v := ?_) (a' := ?_) #[true, true, true, true, true, true, true, true, true, true, false, true, false, false] rfl rfl (any_of HT_.out (by kernel_rfl)) (fun _ _ _ h => h) (Or.inl ⟨by rfl, ?_⟩) ?_ ?_
              rotate_left
              ·intro w'
               go_simp
               with_reducible rfl
              rotate_left
              ·simp only [Act.put, List.setIfInBounds_toArray, List.set_cons_zero, List.set_cons_succ, i64_w, i32_w]
               rfl
              refine pure_ (i := 10) (N := some 54) (v := ?_) (a' := ?_) #[true, true, true, true, true, true, true, true, true, true, true, true, false, false] rfl rfl (any_of HT_.out (by kernel_rfl)) (fun _ _ _ h => h) (Or.inl ⟨by rfl, ?_⟩) ?_ ?_
              rotate_left
              ·intro w'
               go_simp
               with_reducible rfl
              rotate_left
              ·simp only [Act.put, List.setIfInBounds_toArray, List.set_cons_zero, List.set_cons_succ, i64_w, i32_w]
               rfl
              exact norm_ F21_ (hCont (gb121) _ ⟨hHeld, F7_, F1_, F2_, F4_, F6_, F30_, GW121.out, GE121.out, NB101_121.out, NB121_101.out, NB102_121.out, NB121_102.out, NB103_121.out, NB121_103.out, NB114_121.out, NB121_114.out, F10_⟩)
            rintro gb121 w79 ⟨hS_, h0_, h1_, h2_, h3_, h4_, h5_, h6_, h7_, h8_, h9_, h10_, h11_, h12_, h13_, h14_, h15_, h16_⟩
            have n0_ : Aside0 (Kd.R (Kd.int .i64) 3 w79 w.heap.size (fun _ => True) (.slice (some ad108) t104.length co28) t104) := ⟨h0_⟩
            have n1_ : Aside0 (w79.heap[gb101]? = some (.cells #[.slice A0_0 l0_0.length c0_0, .slice A0_1 l0_1.length c0_1, .slice A0_2 l0_2.length c0_2] 96 (0, 0))) := ⟨h1_⟩
            have n2_ : Aside0 (w79.heap[gb102]? = some (.cells #[.slice A1_0 l1_0.length c1_0, .int .i64 a1_1, .int .i64 a1_2] 26 (0, 0))) := ⟨h2_⟩
            have n3_ : Aside0 (w79.heap[gb103]? = some (.cells #[.int .u64 a2_0, .int .u64 a2_1, .int .u64 a2_2, .int .u64 a2_3] 33 (0, 0))) := ⟨h3_⟩
            have n4_ : Aside0 (w79.heap[gb114]? = some (.cells #[.int .u64 t109, .int .u64 t110, .int .u64 t111, .int .u64 t112] 33 (0, 0))) := ⟨h4_⟩
            have n5_ : Aside0 (w79.heap[gb121]? = some (.cells #[.int .u64 0, .int .u64 0, .int .u64 0, .int .u64 0] 33 (0, 0))) := ⟨h5_⟩
            have n6_ : Aside0 (w.heap.size ≤ gb121) := ⟨h6_⟩
            have n7_ : Aside0 (w.heap.size ≤ gb121) := ⟨h7_⟩
            have n8_ : Aside0 (gb101 ≠ gb121) := ⟨h8_⟩
            have n9_ : Aside0 (gb121 ≠ gb101) := ⟨h9_⟩
            have n10_ : Aside0 (gb102 ≠ gb121) := ⟨h10_⟩
            have n11_ : Aside0 (gb121 ≠ gb102) := ⟨h11_⟩
            have n12_ : Aside0 (gb103 ≠ gb121) := ⟨h12_⟩
            have n13_ : Aside0 (gb121 ≠ gb103) := ⟨h13_⟩
            have n14_ : Aside0 (gb114 ≠ gb121) := ⟨h14_⟩
            have n15_ : Aside0 (gb121 ≠ gb114) := ⟨h15_⟩
            have n16_ : Aside0 (Below w.heap.size w w79) := ⟨h16_⟩
            clear HO_9
            clear BK101
            clear BK102
            clear BK103
            clear BK114
            clear HB
            clear h0_ h1_ h2_ h3_ h4_ h5_ h6_ h7_ h8_ h9_ h10_ h11_ h12_ h13_ h14_ h15_ h16_
            have HO_9 := n0_
            have BK101 := n1_
            have BK102 := n2_
            have BK103 := n3_
            have BK114 := n4_
            have BK121 := n5_
            have GW121 := n6_
            have GE121 := n7_
            have NB101_121 := n8_
            have NB121_101 := n9_
            have NB102_121 := n10_
            have NB121_102 := n11_
            have NB103_121 := n12_
            have NB121_103 := n13_
            have NB114_121 := n14_
            have NB121_114 := n15_
            have HB := n16_
            clear n0_ n1_ n2_ n3_ n4_ n5_ n6_ n7_ n8_ n9_ n10_ n11_ n12_ n13_ n14_ n15_ n16_
            have hHeld : w79.cell? ⟨gb101, 0, none⟩ = some (.slice A0_0 l0_0.length c0_0) ∧ w79.cell? ⟨gb101, 1, none⟩ = some (.slice A0_1 l0_1.length c0_1) ∧ w79.cell? ⟨gb101, 2, none⟩ = some (.slice A0_2 l0_2.length c0_2) ∧ w79.cell? ⟨gb102, 0, none⟩ = some (.slice A1_0 l1_0.length c1_0) ∧ w79.cell? ⟨gb102, 1, none⟩ = some (.int .i64 a1_1) ∧ w79.cell? ⟨gb102, 2, none⟩ = some (.int .i64 a1_2) ∧ w79.cell? ⟨gb103, 0, none⟩ = some (.int .u64 a2_0) ∧ w79.cell? ⟨gb103, 1, none⟩ = some (.int .u64 a2_1) ∧ w79.cell? ⟨gb103, 2, none⟩ = some (.int .u64 a2_2) ∧ w79.cell? ⟨gb103, 3, none⟩ = some (.int .u64 a2_3) ∧ w79.cell? (ad108.add (x10_1).toNat) = some (.int .i64 (rd t104 x10_1)) := hS_
            refine norm_ (a' := ?_) ?_ ?_
            rotate_left
            ·simp only [putAll, Act.put, List.setIfInBounds_toArray, List.set_cons_zero, List.set_cons_succ]
             rfl
            refine one_ (i := 12) (N := none) #[true, true, true, true, true, true, true, true, true, true, true, true, true, false] rfl rfl (one_of HT_.out (by kernel_rfl)) (by decide) (fun K hK => ?_)
            have hs80 : w79.cell? ⟨gb121, 0, none⟩ = some (.int .u64 0) := (blk_cell BK121.out 0).trans rfl
            have hfs80 := blk_frozen BK121.out 0
            have hns80_0 := NB101_121.out
            have hns80_1 := NB102_121.out
            have hns80_2 := NB103_121.out
            have hns80_3 := NB114_121.out
            have hms80_0 := NB121_101.out
            have hms80_1 := NB121_102.out
            have hms80_2 := NB121_103.out
            have hms80_3 := NB121_114.out
            have hs81 : w79.cell? ⟨gb121, 1, none⟩ = some (.int .u64 0) := (blk_cell BK121.out 1).trans rfl
            have hfs81 := blk_frozen BK121.out 1
            have hns81_0 := NB101_121.out
            have hns81_1 := NB102_121.out
            have hns81_2 := NB103_121.out
            have hns81_3 := NB114_121.out
            have hms81_0 := NB121_101.out
            have hms81_1 := NB121_102.out
            have hms81_2 := NB121_103.out
            have hms81_3 := NB121_114.out
            have hs82 : w79.cell? ⟨gb121, 2, none⟩ = some (.int .u64 0) := (blk_cell BK121.out 2).trans rfl
            have hfs82 := blk_frozen BK121.out 2
            have hns82_0 := NB101_121.out
            have hns82_1 := NB102_121.out
            have hns82_2 := NB103_121.out
            have hns82_3 := NB114_121.out
            have hms82_0 := NB121_101.out
            have hms82_1 := NB121_102.out
            have hms82_2 := NB121_103.out
            have hms82_3 := NB121_114.out
            have hs83 : w79.cell? ⟨gb121, 3, none⟩ = some (.int .u64 0) := (blk_cell BK121.out 3).trans rfl
            have hfs83 := blk_frozen BK121.out 3
            have hns83_0 := NB101_121.out
            have hns83_1 := NB102_121.out
            have hns83_2 := NB103_121.out
            have hns83_3 := NB114_121.out
            have hms83_0 := NB121_101.out
            have hms83_1 := NB121_102.out
            have hms83_2 := NB121_103.out
            have hms83_3 := NB121_114.out
            refine skip_ (w1 := ?_) (by rfl) rfl ?_ ?_
            rotate_left
            ·go_simp
             rfl
            refine hK.out _ _ ⟨((cell_far (p := ⟨gb121, _, none⟩) NB101_121.out _).trans (((cell_far (p := ⟨gb121, _, none⟩) NB101_121.out _).trans (((cell_far (p := ⟨gb121, _, none⟩) NB101_121.out _).trans (((cell_far (p := ⟨gb121, _, none⟩) NB101_121.out _).trans (hHeld.1)))))))), ((cell_far (p := ⟨gb121, _, none⟩) NB101_121.out _).trans (((cell_far (p := ⟨gb121, _, none⟩) NB101_121.out _).trans (((cell_far (p := ⟨gb121, _, none⟩) NB101_121.out _).trans (((cell_far (p := ⟨gb121, _, none⟩) NB101_121.out _).trans (hHeld.2.1)))))))), ((cell_far (p := ⟨gb121, _, none⟩) NB101_121.out _).trans (((cell_far (p := ⟨gb121, _, none⟩) NB101_121.out _).trans (((cell_far (p := ⟨gb121, _, none⟩) NB101_121.out _).trans (((cell_far (p := ⟨gb121, _, none⟩) NB101_121.out _).trans (hHeld.2.2.1)))))))), ((cell_far (p := ⟨gb121, _, none⟩) NB102_121.out _).trans (((cell_far (p := ⟨gb121, _, none⟩) NB102_121.out _).trans (((cell_far (p := ⟨gb121, _, none⟩) NB102_121.out _).trans (((cell_far (p := ⟨gb121, _, none⟩) NB102_121.out _).trans (hHeld.2.2.2.1)))))))), ((cell_far (p := ⟨gb121, _, none⟩) NB102_121.out _).trans (((cell_far (p := ⟨gb121, _, none⟩) NB102_121.out _).trans (((cell_far (p := ⟨gb121, _, none⟩) NB102_121.out _).trans (((cell_far (p := ⟨gb121, _, none⟩) NB102_121.out _).trans (hHeld.2.2.2.2.1)))))))), ((cell_far (p := ⟨gb121, _, none⟩) NB102_121.out _).trans (((cell_far (p := ⟨gb121, _, none⟩) NB102_121.out _).trans (((cell_far (p := ⟨gb121, _, none⟩) NB102_121.out _).trans (((cell_far (p := ⟨gb121, _, none⟩) NB102_121.out _).trans (hHeld.2.2.2.2.2.1)))))))), ((cell_far (p := ⟨gb121, _, none⟩) NB103_121.out _).trans (((cell_far (p := ⟨gb121, _, none⟩) NB103_121.out _).trans (((cell_far (p := ⟨gb121, _, none⟩) NB103_121.out _).trans (((cell_far (p := ⟨gb121, _, none⟩) NB103_121.out _).trans (hHeld.2.2.2.2.2.2.1)))))))), ((cell_far (p := ⟨gb121, _, none⟩) NB103_121.out _).trans (((cell_far (p := ⟨gb121, _, none⟩) NB103_121.out _).trans (((cell_far (p := ⟨gb121, _, none⟩) NB103_121.out _).trans (((cell_far (p := ⟨gb121, _, none⟩) NB103_121.out _).trans (hHeld.2.2.2.2.2.2.2.1)))))))), ((cell_far (p := ⟨gb121, _, none⟩) NB103_121.out _).trans (((cell_far (p := ⟨gb121, _, none⟩) NB103_121.out _).trans (((cell_far (p := ⟨gb121, _, none⟩) NB103_121.out _).trans (((cell_far (p := ⟨gb121, _, none⟩) NB103_121.out _).trans (hHeld.2.2.2.2.2.2.2.2.1)))))))), ((cell_far (p := ⟨gb121, _, none⟩) NB103_121.out _).trans (((cell_far (p := ⟨gb121, _, none⟩) NB103_121.out _).trans (((cell_far (p := ⟨gb121, _, none⟩) NB103_121.out _).trans (((cell_far (p := ⟨gb121, _, none⟩) NB103_121.out _).trans (hHeld.2.2.2.2.2.2.2.2.2.1)))))))), ((cell_far (p := ⟨gb121, _, none⟩) F9_ _).trans (((cell_far (p := ⟨gb121, _, none⟩) F9_ _).trans (((cell_far (p := ⟨gb121, _, none⟩) F9_ _).trans (((cell_far (p := ⟨gb121, _, none⟩) F9_ _).trans (hHeld.2.2.2.2.2.2.2.2.2.2))))))))⟩ (fun hHeld => ?_)
            clear hK K
            refine pure_ (i := 13) (N := some 15) (v := ?_) (a' := ?_) #[true, true, true, true, true, true, true, true, true, true, true, true, true, true] rfl rfl (any_of HT_.out (by kernel_rfl)) (fun _ _ _ h => h) (Or.inl ⟨by rfl, ?_⟩) ?_ ?_
            rotate_left
            ·intro w'
             go_simp
             with_reducible rfl
            rotate_left
            ·simp only [Act.put, List.setIfInBounds_toArray, List.set_cons_zero, List.set_cons_succ, i64_w, i32_w]
             rfl
            refine done_ (done_of HT_.out (by kernel_rfl)) ?_
            have hnb84 := NB114_101.out
            have hnc84 := NB101_114.out
            have hnb85 := NB114_102.out
            have hnc85 := NB102_114.out
            have hnb86 := NB114_103.out
            have hnc86 := NB103_114.out
            have hnb87 := NB114_121.out
            have hnc87 := NB121_114.out
            have hcz88_0 : w79.cell? ⟨gb114, 0, none⟩ = some (.int .u64 t109) := (blk_cell BK114.out 0).trans rfl
            have hcz88_1 : w79.cell? ⟨gb114, 1, none⟩ = some (.int .u64 t110) := (blk_cell BK114.out 1).trans rfl
            have hcz88_2 : w79.cell? ⟨gb114, 2, none⟩ = some (.int .u64 t111) := (blk_cell BK114.out 2).trans rfl
            have hcz88_3 : w79.cell? ⟨gb114, 3, none⟩ = some (.int .u64 t112) := (blk_cell BK114.out 3).trans rfl
            have hfz88_0 := blk_frozen BK114.out 0
            have hfz88_1 := blk_frozen BK114.out 1
            have hfz88_2 := blk_frozen BK114.out 2
            have hfz88_3 := blk_frozen BK114.out 3
            have hnb89 := NB121_101.out
            have hnc89 := NB101_121.out
            have hnb90 := NB121_102.out
            have hnc90 := NB102_121.out
            have hnb91 := NB121_103.out
            have hnc91 := NB103_121.out
            have hcz92_0 : w79.cell? ⟨gb121, 0, none⟩ = some (.int .u64 0) := (blk_cell BK121.out 0).trans rfl
            have hcz92_1 : w79.cell? ⟨gb121, 1, none⟩ = some (.int .u64 0) := (blk_cell BK121.out 1).trans rfl
            have hcz92_2 : w79.cell? ⟨gb121, 2, none⟩ = some (.int .u64 0) := (blk_cell BK121.out 2).trans rfl
            have hcz92_3 : w79.cell? ⟨gb121, 3, none⟩ = some (.int .u64 0) := (blk_cell BK121.out 3).trans rfl
            have hfz92_0 := blk_frozen BK121.out 0
            have hfz92_1 := blk_frozen BK121.out 1
            have hfz92_2 := blk_frozen BK121.out 2
            have hfz92_3 := blk_frozen BK121.out 3
            try go_wp2_with (first | ((with_reducible refine gate_callee (f := 65) rfl ?_); refine goesL_ (some 57) rfl rfl Try.func65 (by kernel_rfl) rfl #[.agg #[.int .u64 t109, .int .u64 t110, .int .u64 t111, .int .u64 t112], .agg #[.int .u64 t116, .int .u64 t117, .int .u64 t118, .int .u64 t119]] rfl F11_ ?_; (with_reducible refine (dunnageref14_Tighter.calls t109 t110 t111 t112 t116 t117 t118 t119 false _ A38.out).mono ?_); rintro e w93 ⟨rfl, hb⟩; refine ⟨_, rfl, ?_⟩; have n0_ := Aside0.mk (Kd.R_below F35_ hb); have n1_ := Aside0.mk (blk_below (g := gb101) (o := .cells #[.slice A0_0 l0_0.length c0_0, .slice A0_1 l0_1.length c0_1, .slice A0_2 l0_2.length c0_2] 96 (0, 0)) F23_ hb); have n2_ := Aside0.mk (blk_below (g := gb102) (o := .cells #[.slice A1_0 l1_0.length c1_0, .int .i64 a1_1, .int .i64 a1_2] 26 (0, 0)) F24_ hb); have n3_ := Aside0.mk (blk_below (g := gb103) (o := .cells #[.int .u64 a2_0, .int .u64 a2_1, .int .u64 a2_2, .int .u64 a2_3] 33 (0, 0)) F25_ hb); have n4_ := Aside0.mk (blk_below (g := gb114) (o := .cells #[.int .u64 t109, .int .u64 t110, .int .u64 t111, .int .u64 t112] 33 (0, 0)) F26_ hb); have n5_ := Aside0.mk (blk_below (g := gb121) (o := .cells #[.int .u64 t116, .int .u64 t117, .int .u64 t118, .int .u64 t119] 33 (0, 0)) F18_ hb); have n6_ := Aside0.mk (below_step F10_ hb); clear HO_9; clear BK101; clear BK102; clear BK103; clear BK114; clear BK121; clear HB; have HO_9 := n0_; have BK101 := n1_; have BK102 := n2_; have BK103 := n3_; have BK114 := n4_; have BK121 := n5_; have HB := n6_; clear n0_ n1_ n2_ n3_ n4_ n5_ n6_; (try clear hb); (try clear hb2); (try clear hk); (try clear hi)))
            go_roundg kj28
            case measure => have := HK1.out; have := HJ28.out; omega
            case rel => exact ⟨(x10_1), (wrap64 (x11_1 + 1)), F37_, F37_, H', ⟨by have := HK1.out; have := HJ28.out; omega⟩, ⟨F38_⟩, ⟨F31_⟩, ⟨F32_⟩, ⟨F33_⟩, ⟨F39_⟩⟩
          ·rw [if_neg c36] at H
           exact absurd H (by simp)
         ·rw [if_neg c35] at H
          exact absurd H (by simp)
        ·rw [if_neg c33] at H
         exact absurd H (by simp)
       ·rw [if_neg c32] at H
        exact absurd H (by simp)
      ·replace c31 := Bool.eq_false_iff.mpr c31
       subst c31
       have H1 : (if 0 ≤ x10_1 then (if x10_1 < (t104.length : Int) then (some (rd t104 x10_1)) else (none)) else (none)) = some r := by rw [if_neg (show ¬ (false = true) by decide)] at H; exact H
       clear H
       have H := H1
       clear H1
       by_cases c94 : 0 ≤ x10_1
       ·rw [if_pos c94] at H
        have c94b0 : decide (0 ≤ x10_1) = true := decide_eq_true c94
        clear c94
        by_cases c95 : x10_1 < (t104.length : Int)
        ·rw [if_pos c95] at H
         have c95b0 : decide (x10_1 < (t104.length : Int)) = true := decide_eq_true c95
         clear c95
         obtain rfl := Option.some.inj H
         have p107 : 0 ≤ (x10_1 : Int) := of_decide_eq_true F34_
         have q107 : x10_1 < (t104.length : Int) := of_decide_eq_true F34_
         obtain ⟨ad107, e107, hx107_0⟩ := Kd.at_int (Kd.R_reads' HO_9.out).2.2 x10_1 p107 q107
         cases e107
         replace p107 := eq_true p107
         replace q107 := eq_true q107
         go_wp2
         go_ret
         exact ⟨by first | rfl | (simp [errW_none, errW_some] <;> rfl) | (simp [*, errW_none, errW_some] <;> rfl), F17_⟩
        ·rw [if_neg c95] at H
         exact absurd H (by simp)
       ·rw [if_neg c94] at H
        exact absurd H (by simp)

end Go.Proofs.Ytppfkbigeknedaa.Q
