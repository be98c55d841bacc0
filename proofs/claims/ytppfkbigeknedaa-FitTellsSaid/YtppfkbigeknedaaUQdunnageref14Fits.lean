import Derived.Test.YtppfkbigeknedaaUQ0
import Derived.Test.YtppfkbigeknedaaUQdunnageref14Left
namespace Go.Proofs.Ytppfkbigeknedaa.Q
open Go.RowKit Go.Proofs.YtppfkbigeknedaaW.PrintWords Go.Proofs.YtppfkbigeknedaaW.PrintLast Go.Proofs.YtppfkbigeknedaaW.PrintMore
attribute [local go_sem] max2_int min2_int max_two min_two max_three min_three max_four min_four   -- for this text's walks alone
set_option linter.unusedVariables false
set_option linter.unusedSimpArgs false

attribute [local go_sem] eqe_ii eqe_nn eqe_ni eqe_nni
namespace FoldQdunnageref14Fits
theorem F1_ {p : Prop} (h : p := by first | exact Nat.ne_of_lt (Nat.lt_of_lt_of_le F31_ GW110.out) | (rw [add_block]; exact Nat.ne_of_lt (Nat.lt_of_lt_of_le F31_ GW110.out)) | (show (Addr.add _ _).block ≠ _; rw [add_block]; exact Nat.ne_of_lt (Nat.lt_of_lt_of_le F31_ GW110.out)) | (dsimp only; exact Nat.ne_of_lt (Nat.lt_of_lt_of_le F31_ GW110.out))) : p := h
theorem F2_ {p : Prop} (h : p := by first | exact Nat.ne_of_lt (Nat.lt_of_lt_of_le F32_ GW110.out) | (rw [add_block]; exact Nat.ne_of_lt (Nat.lt_of_lt_of_le F32_ GW110.out)) | (show (Addr.add _ _).block ≠ _; rw [add_block]; exact Nat.ne_of_lt (Nat.lt_of_lt_of_le F32_ GW110.out)) | (dsimp only; exact Nat.ne_of_lt (Nat.lt_of_lt_of_le F32_ GW110.out))) : p := h
theorem F3_ {p : Prop} (h : p := by first | exact Nat.ne_of_lt (Nat.lt_of_lt_of_le F33_ GW110.out) | (rw [add_block]; exact Nat.ne_of_lt (Nat.lt_of_lt_of_le F33_ GW110.out)) | (show (Addr.add _ _).block ≠ _; rw [add_block]; exact Nat.ne_of_lt (Nat.lt_of_lt_of_le F33_ GW110.out)) | (dsimp only; exact Nat.ne_of_lt (Nat.lt_of_lt_of_le F33_ GW110.out))) : p := h
theorem F4_ {p : Prop} (h : p := by first | exact Nat.ne_of_lt (Nat.lt_of_lt_of_le F34_ GW110.out) | (rw [add_block]; exact Nat.ne_of_lt (Nat.lt_of_lt_of_le F34_ GW110.out)) | (show (Addr.add _ _).block ≠ _; rw [add_block]; exact Nat.ne_of_lt (Nat.lt_of_lt_of_le F34_ GW110.out)) | (dsimp only; exact Nat.ne_of_lt (Nat.lt_of_lt_of_le F34_ GW110.out))) : p := h
theorem F5_ {p : Prop} (h : p := by first | exact Nat.ne_of_lt (Nat.lt_of_lt_of_le F35_ GW110.out) | (rw [add_block]; exact Nat.ne_of_lt (Nat.lt_of_lt_of_le F35_ GW110.out)) | (show (Addr.add _ _).block ≠ _; rw [add_block]; exact Nat.ne_of_lt (Nat.lt_of_lt_of_le F35_ GW110.out)) | (dsimp only; exact Nat.ne_of_lt (Nat.lt_of_lt_of_le F35_ GW110.out))) : p := h
theorem F6_ {p : Prop} (h : p := by first | exact Nat.ne_of_lt (Nat.lt_of_lt_of_le F36_ GW110.out) | (rw [add_block]; exact Nat.ne_of_lt (Nat.lt_of_lt_of_le F36_ GW110.out)) | (show (Addr.add _ _).block ≠ _; rw [add_block]; exact Nat.ne_of_lt (Nat.lt_of_lt_of_le F36_ GW110.out)) | (dsimp only; exact Nat.ne_of_lt (Nat.lt_of_lt_of_le F36_ GW110.out))) : p := h
theorem F7_ {p : Prop} (h : p := by first | exact Nat.ne_of_lt (Nat.lt_of_lt_of_le F37_ GW110.out) | (rw [add_block]; exact Nat.ne_of_lt (Nat.lt_of_lt_of_le F37_ GW110.out)) | (show (Addr.add _ _).block ≠ _; rw [add_block]; exact Nat.ne_of_lt (Nat.lt_of_lt_of_le F37_ GW110.out)) | (dsimp only; exact Nat.ne_of_lt (Nat.lt_of_lt_of_le F37_ GW110.out))) : p := h
theorem F8_ {p : Prop} (h : p := by first | exact Nat.ne_of_lt (Nat.lt_of_lt_of_le F38_ GW110.out) | (rw [add_block]; exact Nat.ne_of_lt (Nat.lt_of_lt_of_le F38_ GW110.out)) | (show (Addr.add _ _).block ≠ _; rw [add_block]; exact Nat.ne_of_lt (Nat.lt_of_lt_of_le F38_ GW110.out)) | (dsimp only; exact Nat.ne_of_lt (Nat.lt_of_lt_of_le F38_ GW110.out))) : p := h
theorem F9_ {p : Prop} (h : p := by first | exact Nat.ne_of_lt (Nat.lt_of_lt_of_le F39_ GW110.out) | (rw [add_block]; exact Nat.ne_of_lt (Nat.lt_of_lt_of_le F39_ GW110.out)) | (show (Addr.add _ _).block ≠ _; rw [add_block]; exact Nat.ne_of_lt (Nat.lt_of_lt_of_le F39_ GW110.out)) | (dsimp only; exact Nat.ne_of_lt (Nat.lt_of_lt_of_le F39_ GW110.out))) : p := h
theorem F10_ {p : Prop} (h : p := by first | exact Nat.ne_of_lt (Nat.lt_of_lt_of_le F40_ GW110.out) | (rw [add_block]; exact Nat.ne_of_lt (Nat.lt_of_lt_of_le F40_ GW110.out)) | (show (Addr.add _ _).block ≠ _; rw [add_block]; exact Nat.ne_of_lt (Nat.lt_of_lt_of_le F40_ GW110.out)) | (dsimp only; exact Nat.ne_of_lt (Nat.lt_of_lt_of_le F40_ GW110.out))) : p := h
theorem F11_ {p : Prop} (h : p := by (with_reducible repeat (first | refine blk_drewN ?_ _ | refine blk_drew ?_ | refine blk_alloc ?_ _)); exact BK101.out) : p := h
theorem F12_ {p : Prop} (h : p := by repeat (first | (with_reducible first | exact HB.out | apply below_alloc | apply pw_below_drewN | apply below_drew1 | refine below_set ?_ GE101.out | refine below_set ?_ GE102.out | refine below_set ?_ GE103.out) | exact HB.out)) : p := h
theorem F13_ {p : Prop} (h : p := by (with_reducible repeat (first | refine blk_drewN ?_ _ | refine blk_drew ?_ | refine blk_alloc ?_ _)); exact BK102.out) : p := h
theorem F14_ {p : Prop} (h : p := by (with_reducible repeat (first | refine blk_drewN ?_ _ | refine blk_drew ?_ | refine blk_alloc ?_ _)); exact BK103.out) : p := h
theorem F15_ {p : Prop} (h : p := by repeat (first | (with_reducible first | exact HB.out | apply below_alloc | apply pw_below_drewN | apply below_drew1 | refine below_set ?_ GE101.out | refine below_set ?_ GE102.out | refine below_set ?_ GE103.out | refine below_set ?_ GE110.out) | exact HB.out)) : p := h
theorem F16_ {p : Prop} (h : p := by (with_reducible repeat (first | apply Kd.R_alloc | apply Kd.R_drewN | apply Kd.R_drew)); exact HO_7.out) : p := h
theorem F17_ {p : Prop} (h : p := by first | (rw [add_block]; exact hn111_0) | (show (Addr.add _ _).block ≠ _; rw [add_block]; exact hn111_0) | exact hn111_0) : p := h
theorem F18_ {p : Prop} (h : p := by first | (rw [add_block]; exact hn111_1) | (show (Addr.add _ _).block ≠ _; rw [add_block]; exact hn111_1) | exact hn111_1) : p := h
theorem F19_ {p : Prop} (h : p := by first | (rw [add_block]; exact hn111_2) | (show (Addr.add _ _).block ≠ _; rw [add_block]; exact hn111_2) | exact hn111_2) : p := h
theorem F20_ {p : Prop} (h : p := by first | (rw [add_block]; exact hn111_3) | (show (Addr.add _ _).block ≠ _; rw [add_block]; exact hn111_3) | exact hn111_3) : p := h
theorem F21_ {p : Prop} (h : p := by (with_reducible repeat (first | refine blk_drewN ?_ _ | refine blk_drew ?_ | refine blk_alloc ?_ _)); exact BK110.out) : p := h
theorem F22_ {p : Prop} (h : p := by repeat (first | exact (Kd.C_below HR0_0.out HB.out) | (with_reducible refine Kd.C_alloc ?_ _) | (with_reducible refine Kd.C_drewN ?_ _) | (with_reducible refine Kd.C_drew ?_))) : p := h
theorem F23_ {p : Prop} (h : p := by repeat (first | exact (Kd.C_below HR0_1.out HB.out) | (with_reducible refine Kd.C_alloc ?_ _) | (with_reducible refine Kd.C_drewN ?_ _) | (with_reducible refine Kd.C_drew ?_))) : p := h
theorem F24_ {p : Prop} (h : p := by repeat (first | exact (Kd.C_below HR0_2.out HB.out) | (with_reducible refine Kd.C_alloc ?_ _) | (with_reducible refine Kd.C_drewN ?_ _) | (with_reducible refine Kd.C_drew ?_))) : p := h
theorem F25_ {p : Prop} (h : p := by repeat (first | exact (Kd.C_below HR1_0.out HB.out) | (with_reducible refine Kd.C_alloc ?_ _) | (with_reducible refine Kd.C_drewN ?_ _) | (with_reducible refine Kd.C_drew ?_))) : p := h
theorem F26_ {p : Prop} (h : p := by (try simp only [List.map_toArray, List.map_cons, List.map_nil]); first | done | rfl | (simp only [List.length_drop, List.length_take]; rfl)) : p := h
theorem F27_ {p : Prop} (h : p := by repeat (first | (with_reducible first | exact HB.out | apply below_alloc | apply pw_below_drewN | apply below_drew1 | refine below_set ?_ GE101.out | refine below_set ?_ GE102.out) | exact HB.out)) : p := h
theorem F28_ {p : Prop} (h : p := by repeat (first | (with_reducible first | exact HB.out | apply below_alloc | apply pw_below_drewN | apply below_drew1 | refine below_set ?_ GE101.out) | exact HB.out)) : p := h
theorem F29_ {p : Prop} (h : p := by simp only [putAll, Act.put, List.setIfInBounds_toArray, List.set_cons_zero, List.set_cons_succ]) : p := h
theorem F30_ {p : Prop} (h : p := by have := World.block_lt_of_cell? _ _ hx111_0; first | rwa [add_block] at this | exact this) : p := h
theorem F31_ {p : Prop} (h : p := by have := World.block_lt_of_cell? _ _ hw104_0; first | rwa [add_block] at this | exact this) : p := h
theorem F32_ {p : Prop} (h : p := by have := World.block_lt_of_cell? _ _ hw104_1; first | rwa [add_block] at this | exact this) : p := h
theorem F33_ {p : Prop} (h : p := by have := World.block_lt_of_cell? _ _ hw104_2; first | rwa [add_block] at this | exact this) : p := h
theorem F34_ {p : Prop} (h : p := by have := World.block_lt_of_cell? _ _ hw104_3; first | rwa [add_block] at this | exact this) : p := h
theorem F35_ {p : Prop} (h : p := by have := World.block_lt_of_cell? _ _ hw104_4; first | rwa [add_block] at this | exact this) : p := h
theorem F36_ {p : Prop} (h : p := by have := World.block_lt_of_cell? _ _ hw104_5; first | rwa [add_block] at this | exact this) : p := h
theorem F37_ {p : Prop} (h : p := by have := World.block_lt_of_cell? _ _ hw104_6; first | rwa [add_block] at this | exact this) : p := h
theorem F38_ {p : Prop} (h : p := by have := World.block_lt_of_cell? _ _ hw104_7; first | rwa [add_block] at this | exact this) : p := h
theorem F39_ {p : Prop} (h : p := by have := World.block_lt_of_cell? _ _ hw104_8; first | rwa [add_block] at this | exact this) : p := h
theorem F40_ {p : Prop} (h : p := by have := World.block_lt_of_cell? _ _ hw104_9; first | rwa [add_block] at this | exact this) : p := h
theorem F41_ {p : Prop} (h : p := by repeat (first | (with_reducible first | exact HB.out | apply below_alloc | apply pw_below_drewN | apply below_drew1) | exact HB.out)) : p := h
theorem F42_ {p : Prop} (h : p := by first | (with_reducible assumption) | assumption) : p := h
theorem F43_ {p : Prop} (h : p := by repeat (first | (with_reducible first | exact HB.out | apply below_alloc | apply pw_below_drewN | apply below_drew1 | refine below_set ?_ GE101.out | refine below_set ?_ GE102.out | refine below_set ?_ GE103.out | refine below_set ?_ GE110.out) | exact HB.out)) : p := h
theorem F44_ {p : Prop} (h : p := by repeat (first | (with_reducible first | exact HB.out | apply below_alloc | apply pw_below_drewN | apply below_drew1 | refine below_set ?_ GE101.out | refine below_set ?_ GE102.out | refine below_set ?_ GE103.out) | exact HB.out)) : p := h
end FoldQdunnageref14Fits
open FoldQdunnageref14Fits
def dunnageref14_Fits.l0 : Nat → List Int → Int → List (S150) → List (S260) → List (S70) → List (S70) → Int → Int → Int → Int → Int → Int → Option (List Int)
 | 0, _, _, _, _, _, _, _, _, _, _, _, _ => none
 | k + 1, x7, x8, x102000, x102001, x102002, x103000, x103001, x103002, x104000, x104001, x104002, x104003 => if x8 < (x102000.length : Int) then (if 0 ≤ x8 then ((dunnageref14_Left.f k x102000 x102001 x102002 x103000 x103001 x103002 ((rd_T150 x102000 x8).f0) x104000 x104001 x104002 x104003).bind fun bt105 => (if bt105.2.2.2.2 = true then (if x7.length < 17592186044416 then (dunnageref14_Fits.l0 k (x7 ++ [(rd_T150 x102000 x8).f0]) (wrap64 (x8 + 1)) x102000 x102001 x102002 x103000 x103001 x103002 x104000 x104001 x104002 x104003) else (none)) else (dunnageref14_Fits.l0 k x7 (wrap64 (x8 + 1)) x102000 x102001 x102002 x103000 x103001 x103002 x104000 x104001 x104002 x104003))) else (none)) else (some x7)
def dunnageref14_Fits.f (k : Nat) (l0_0 : List (S150)) (l0_1 : List (S260)) (l0_2 : List (S70)) (l1_0 : List (S70)) (a1_1 : Int) (a1_2 : Int) (a2_0 : Int) (a2_1 : Int) (a2_2 : Int) (a2_3 : Int) : Option (List Int) := dunnageref14_Fits.l0 k ([] : List Int) 0 l0_0 l0_1 l0_2 l1_0 a1_1 a1_2 a2_0 a2_1 a2_2 a2_3
theorem dunnageref14_Fits.mono_l : ∀ k, (∀ y0 y1 y2 y3 y4 y5 y6 y7 y8 y9 y10 y11, LeO (dunnageref14_Fits.l0 k y0 y1 y2 y3 y4 y5 y6 y7 y8 y9 y10 y11) (dunnageref14_Fits.l0 (k + 1) y0 y1 y2 y3 y4 y5 y6 y7 y8 y9 y10 y11))
 | 0 => fun _ _ _ _ _ _ _ _ _ _ _ _ r h => by simp [dunnageref14_Fits.l0] at h
 | k + 1 => by
  have ih0 := dunnageref14_Fits.mono_l k
  ·intro y0 y1 y2 y3 y4 y5 y6 y7 y8 y9 y10 y11
   unfold dunnageref14_Fits.l0
   repeat' first
   | (with_reducible exact ih0 _ _ _ _ _ _ _ _ _ _ _ _)
   | (with_reducible exact dunnageref14_Left.mono _ _ _ _ _ _ _ _ _ _ _ _)
   | (with_reducible exact LeO.refl _)
   | (with_reducible exact LeO.none _)
   | (with_reducible refine LeO.ite ?_ ?_)
   | (with_reducible refine LeO.bind ?_ (fun _ => ?_))
   | exact ih0 _ _ _ _ _ _ _ _ _ _ _ _
   | exact dunnageref14_Left.mono _ _ _ _ _ _ _ _ _ _ _ _
   | exact LeO.none _
   | refine LeO.ite ?_ ?_
   | refine LeO.bind ?_ (fun _ => ?_)
theorem dunnageref14_Fits.mono : ∀ a0 a1 a2 a3 a4 a5 a6 a7 a8 a9 k, LeO (dunnageref14_Fits.f k a0 a1 a2 a3 a4 a5 a6 a7 a8 a9) (dunnageref14_Fits.f (k + 1) a0 a1 a2 a3 a4 a5 a6 a7 a8 a9) := by
 intro a0 a1 a2 a3 a4 a5 a6 a7 a8 a9 k
 have ih0 := dunnageref14_Fits.mono_l k
 unfold dunnageref14_Fits.f
 repeat' first
   | (with_reducible exact ih0 _ _ _ _ _ _ _ _ _ _ _ _)
   | (with_reducible exact dunnageref14_Left.mono _ _ _ _ _ _ _ _ _ _ _ _)
   | (with_reducible exact LeO.refl _)
   | (with_reducible exact LeO.none _)
   | (with_reducible refine LeO.ite ?_ ?_)
   | (with_reducible refine LeO.bind ?_ (fun _ => ?_))
   | exact ih0 _ _ _ _ _ _ _ _ _ _ _ _
   | exact dunnageref14_Left.mono _ _ _ _ _ _ _ _ _ _ _ _
   | exact LeO.none _
   | refine LeO.ite ?_ ?_
   | refine LeO.bind ?_ (fun _ => ?_)
def dunnageref14_Fits.T5 : Bool × List (List Nat × List Nat) := (true, [([], []), ([], []), ([], []), ([2], [2]), ([], []), ([3, 4], [3, 4]), ([5], [5]), ([6], [6]), ([], []), ([0, 1, 7, 8], [0, 1, 7, 8]), ([9], [9]), ([10], [10]), ([10], [10]), ([], []), ([13, 11, 9, 0, 1, 2, 3, 4, 5, 6, 7, 8, 9, 10, 11, 13], [11, 13]), ([12, 14, 0, 1, 2, 3, 4, 5, 6, 7, 8, 9, 10, 11, 12, 13, 14], [12])])
def dunnageref14_Fits.B5 : List Nat := [0, 0, 0, 4, 0, 28, 60, 124, 0, 511, 1023, 2047, 2047, 0, 12287, 32767]
theorem dunnageref14_Fits.tab5 : rtab .any (opsOf Try.f68 5) = dunnageref14_Fits.T5 := by kernel_rfl
theorem dunnageref14_Fits.bits5 : waitsOk dunnageref14_Fits.T5.2 dunnageref14_Fits.B5 = true := by kernel_rfl
set_option maxHeartbeats 8000000 in
set_option maxRecDepth 100000 in
theorem dunnageref14_Fits.calls (k : Nat) (A0_0 : Option Addr) (c0_0 : Nat) (l0_0 : List (S150)) (A0_1 : Option Addr) (c0_1 : Nat) (l0_1 : List (S260)) (A0_2 : Option Addr) (c0_2 : Nat) (l0_2 : List (S70)) (A1_0 : Option Addr) (c1_0 : Nat) (l1_0 : List (S70)) (a1_1 : Int) (a1_2 : Int) (a2_0 : Int) (a2_1 : Int) (a2_2 : Int) (a2_3 : Int) (r : List Int) (w : World) (hr0_0 : Kd.C k150 w A0_0 l0_0.length l0_0) (hc0_0 : l0_0.length ≤ c0_0) (hr0_1 : Kd.C k260 w A0_1 l0_1.length l0_1) (hc0_1 : l0_1.length ≤ c0_1) (hr0_2 : Kd.C k70 w A0_2 l0_2.length l0_2) (hc0_2 : l0_2.length ≤ c0_2) (hr1_0 : Kd.C k70 w A1_0 l1_0.length l1_0) (hc1_0 : l1_0.length ≤ c1_0) (h : dunnageref14_Fits.f k l0_0 l0_1 l0_2 l1_0 a1_1 a1_2 a2_0 a2_1 a2_2 a2_3 = some r) :
  Calls Try.prog 68 #[.agg #[.slice A0_0 l0_0.length c0_0, .slice A0_1 l0_1.length c0_1, .slice A0_2 l0_2.length c0_2], .agg #[.slice A1_0 l1_0.length c1_0, .int .i64 a1_1, .int .i64 a1_2], .agg #[.int .u64 a2_0, .int .u64 a2_1, .int .u64 a2_2, .int .u64 a2_3]] w fun e w' => ∃ v0_ : Value, e = .returned (v0_) ∧ Kd.R (Kd.int .i64) 3 w' w.heap.size (fun _ => True) v0_ r ∧ Below w.heap.size w w' := by
 have hu96 := Try.underlying96
 have hu26 := Try.underlying26
 have hu33 := Try.underlying33
 have HR0_0 := Aside0.mk hr0_0
 have HC0_0 := Aside0.mk hc0_0
 clear hr0_0 hc0_0
 have HR0_1 := Aside0.mk hr0_1
 have HC0_1 := Aside0.mk hc0_1
 clear hr0_1 hc0_1
 have HR0_2 := Aside0.mk hr0_2
 have HC0_2 := Aside0.mk hc0_2
 clear hr0_2 hc0_2
 have HR1_0 := Aside0.mk hr1_0
 have HC1_0 := Aside0.mk hc1_0
 clear hr1_0 hc1_0
 have HB := Aside0.mk (Below.refl w.heap.size w)
 have H : (dunnageref14_Fits.l0 k ([] : List Int) 0 l0_0 l0_1 l0_2 l1_0 a1_1 a1_2 a2_0 a2_1 a2_2 a2_3) = some r := h
 clear h
 have H' := Aside0.mk H
 clear H
 go_enter Try.func68, Try.ntmps68
 go_wp2_with (first | ((with_reducible refine gate_dst (N := 3) rfl ?_); refine box_event ?hg (N := 3) ?hd (cs := #[.slice A0_0 l0_0.length c0_0, .slice A0_1 l0_1.length c0_1, .slice A0_2 l0_2.length c0_2]) (t := 96) ?hr ?_; (case hd => rfl); (case hg => rfl); (case hr => first | (go_simp; done) | (go_simp; rfl)); intro gb101 hg w4 hbox hb; have n0_ := Aside0.mk (below_step F41_ hb); have n1_ := Aside0.mk (hbox); have n2_ := Aside0.mk ((by rw [hg]; exact (below_size F41_) : w.heap.size ≤ gb101)); have n3_ := Aside0.mk ((by rw [hg]; exact (below_size F41_) : w.heap.size ≤ gb101)); clear HB; have HB := n0_; have BK101 := n1_; have GW101 := n2_; have GE101 := n3_; clear n0_ n1_ n2_ n3_; clear hb hbox hg) | ((with_reducible refine gate_dst (N := 4) rfl ?_); refine box_event ?hg (N := 4) ?hd (cs := #[.slice A1_0 l1_0.length c1_0, .int .i64 a1_1, .int .i64 a1_2]) (t := 26) ?hr ?_; (case hd => rfl); (case hg => rfl); (case hr => first | (go_simp; done) | (go_simp; rfl)); intro gb102 hg w5 hbox hb; have n0_ := Aside0.mk (blk_below (g := gb101) (o := .cells #[.slice A0_0 l0_0.length c0_0, .slice A0_1 l0_1.length c0_1, .slice A0_2 l0_2.length c0_2] 96 (0, 0)) F11_ hb); have n1_ := Aside0.mk (below_step F28_ hb); have n2_ := Aside0.mk (hbox); have n3_ := Aside0.mk ((by rw [hg]; exact (below_size F28_) : w.heap.size ≤ gb102)); have n4_ := Aside0.mk ((by rw [hg]; exact (below_size F28_) : w.heap.size ≤ gb102)); have n5_ := Aside0.mk ((by rw [hg]; exact Nat.ne_of_lt (blk_lt (g := gb101) (o := .cells #[.slice A0_0 l0_0.length c0_0, .slice A0_1 l0_1.length c0_1, .slice A0_2 l0_2.length c0_2] 96 (0, 0)) F11_) : gb101 ≠ gb102)); have n6_ := Aside0.mk ((by rw [hg]; exact Nat.ne_of_gt (blk_lt (g := gb101) (o := .cells #[.slice A0_0 l0_0.length c0_0, .slice A0_1 l0_1.length c0_1, .slice A0_2 l0_2.length c0_2] 96 (0, 0)) F11_) : gb102 ≠ gb101)); clear BK101; clear HB; have BK101 := n0_; have HB := n1_; have BK102 := n2_; have GW102 := n3_; have GE102 := n4_; have NB101_102 := n5_; have NB102_101 := n6_; clear n0_ n1_ n2_ n3_ n4_ n5_ n6_; clear hb hbox hg) | ((with_reducible refine gate_dst (N := 5) rfl ?_); refine box_event ?hg (N := 5) ?hd (cs := #[.int .u64 a2_0, .int .u64 a2_1, .int .u64 a2_2, .int .u64 a2_3]) (t := 33) ?hr ?_; (case hd => rfl); (case hg => rfl); (case hr => first | (go_simp; done) | (go_simp; rfl)); intro gb103 hg w6 hbox hb; have n0_ := Aside0.mk (blk_below (g := gb101) (o := .cells #[.slice A0_0 l0_0.length c0_0, .slice A0_1 l0_1.length c0_1, .slice A0_2 l0_2.length c0_2] 96 (0, 0)) F11_ hb); have n1_ := Aside0.mk (blk_below (g := gb102) (o := .cells #[.slice A1_0 l1_0.length c1_0, .int .i64 a1_1, .int .i64 a1_2] 26 (0, 0)) F13_ hb); have n2_ := Aside0.mk (below_step F27_ hb); have n3_ := Aside0.mk (hbox); have n4_ := Aside0.mk ((by rw [hg]; exact (below_size F27_) : w.heap.size ≤ gb103)); have n5_ := Aside0.mk ((by rw [hg]; exact (below_size F27_) : w.heap.size ≤ gb103)); have n6_ := Aside0.mk ((by rw [hg]; exact Nat.ne_of_lt (blk_lt (g := gb101) (o := .cells #[.slice A0_0 l0_0.length c0_0, .slice A0_1 l0_1.length c0_1, .slice A0_2 l0_2.length c0_2] 96 (0, 0)) F11_) : gb101 ≠ gb103)); have n7_ := Aside0.mk ((by rw [hg]; exact Nat.ne_of_gt (blk_lt (g := gb101) (o := .cells #[.slice A0_0 l0_0.length c0_0, .slice A0_1 l0_1.length c0_1, .slice A0_2 l0_2.length c0_2] 96 (0, 0)) F11_) : gb103 ≠ gb101)); have n8_ := Aside0.mk ((by rw [hg]; exact Nat.ne_of_lt (blk_lt (g := gb102) (o := .cells #[.slice A1_0 l1_0.length c1_0, .int .i64 a1_1, .int .i64 a1_2] 26 (0, 0)) F13_) : gb102 ≠ gb103)); have n9_ := Aside0.mk ((by rw [hg]; exact Nat.ne_of_gt (blk_lt (g := gb102) (o := .cells #[.slice A1_0 l1_0.length c1_0, .int .i64 a1_1, .int .i64 a1_2] 26 (0, 0)) F13_) : gb103 ≠ gb102)); clear BK101; clear BK102; clear HB; have BK101 := n0_; have BK102 := n1_; have HB := n2_; have BK103 := n3_; have GW103 := n4_; have GE103 := n5_; have NB101_103 := n6_; have NB103_101 := n7_; have NB102_103 := n8_; have NB103_102 := n9_; clear n0_ n1_ n2_ n3_ n4_ n5_ n6_ n7_ n8_ n9_; clear hb hbox hg))
 go_loopg [7, 8] k (fun kq v7 v8 w' => ∃ (x7_1 : List Int) (x8_1 : Int), v8 = .int .i64 x8_1 ∧ Aside0 (dunnageref14_Fits.l0 kq x7_1 x8_1 l0_0 l0_1 l0_2 l1_0 a1_1 a1_2 a2_0 a2_1 a2_2 a2_3 = some r) ∧ Aside0 (kq ≤ k) ∧ Aside0 (Kd.R (Kd.int .i64) 3 w' w.heap.size (fun _ => True) v7 x7_1) ∧ Aside0 (w'.heap[gb101]? = some (.cells #[(.slice A0_0 l0_0.length c0_0), (.slice A0_1 l0_1.length c0_1), (.slice A0_2 l0_2.length c0_2)] 96 (0, 0))) ∧ Aside0 (w'.heap[gb102]? = some (.cells #[(.slice A1_0 l1_0.length c1_0), .int .i64 a1_1, .int .i64 a1_2] 26 (0, 0))) ∧ Aside0 (w'.heap[gb103]? = some (.cells #[.int .u64 a2_0, .int .u64 a2_1, .int .u64 a2_2, .int .u64 a2_3] 33 (0, 0))) ∧ Aside0 (Below w.heap.size w w'))
 case atStart => exact ⟨(([] : List Int)), (0), (by first | rfl | (simp; done) | (simp [*]; done)), H', ⟨Nat.le_refl _⟩, ⟨by first | exact Kd.R_nil _ _ _ _ _ | exact Kd.N_nil _ _ _ _ _ | exact Kd.V_nil _ _ _ _ _ | exact Kd.Q_nil _ _ _ _ _ | exact Kd.S_nil _ _ _ _ _⟩, ⟨by (with_reducible repeat (first | refine blk_drewN ?_ _ | refine blk_drew ?_ | refine blk_alloc ?_ _)); exact BK101.out⟩, ⟨by (with_reducible repeat (first | refine blk_drewN ?_ _ | refine blk_drew ?_ | refine blk_alloc ?_ _)); exact BK102.out⟩, ⟨by (with_reducible repeat (first | refine blk_drewN ?_ _ | refine blk_drew ?_ | refine blk_alloc ?_ _)); exact BK103.out⟩, ⟨F44_⟩⟩
 case round =>
  clear H'
  try clear c1
  try clear p2
  try clear c6
  obtain ⟨x7_1, x8_1, rfl, HA, HK1, HO_7, BK101, BK102, BK103, HB⟩ := hrel
  cases gk with
  | zero => exact absurd HA.out (by simp [dunnageref14_Fits.l0])
  | succ k1 =>
   have H := HA.out
   clear HA
   simp only [dunnageref14_Fits.l0] at H
   by_cases c7 : x8_1 < (l0_0.length : Int)
   ·rw [if_pos c7] at H
    have c7b0 : decide (x8_1 < (l0_0.length : Int)) = true := decide_eq_true c7
    clear c7
    by_cases c8 : 0 ≤ x8_1
    ·rw [if_pos c8] at H
     have c8b0 : decide (0 ≤ x8_1) = true := decide_eq_true c8
     clear c8
     replace H := Option.bind_eq_some_iff.mp H
     obtain ⟨⟨t105, t106, t107, t108, t109⟩, A90, H⟩ := H
     replace H : (if t109 = true then (if x7_1.length < 17592186044416 then (dunnageref14_Fits.l0 k1 (x7_1 ++ [(rd_T150 l0_0 x8_1).f0]) (wrap64 (x8_1 + 1)) l0_0 l0_1 l0_2 l1_0 a1_1 a1_2 a2_0 a2_1 a2_2 a2_3) else (none)) else (dunnageref14_Fits.l0 k1 x7_1 (wrap64 (x8_1 + 1)) l0_0 l0_1 l0_2 l1_0 a1_1 a1_2 a2_0 a2_1 a2_2 a2_3)) = some r := H
     have A9 := Aside0.mk A90
     clear A90
     by_cases c10 : t109 = true
     ·subst c10
      have H1 : (if x7_1.length < 17592186044416 then (dunnageref14_Fits.l0 k1 (x7_1 ++ [(rd_T150 l0_0 x8_1).f0]) (wrap64 (x8_1 + 1)) l0_0 l0_1 l0_2 l1_0 a1_1 a1_2 a2_0 a2_1 a2_2 a2_3) else (none)) = some r := by rw [if_pos rfl] at H; exact H
      clear H
      have H := H1
      clear H1
      by_cases c11 : x7_1.length < 17592186044416
      ·rw [if_pos c11] at H
       have LMc11 := Aside0.mk c11
       clear c11
       obtain ⟨y112, hy112⟩ : ∃ y_ : List Int, y_ = (x7_1 ++ [(rd_T150 l0_0 x8_1).f0]) := ⟨_, rfl⟩
       replace H : (dunnageref14_Fits.l0 k1 y112 (wrap64 (x8_1 + 1)) l0_0 l0_1 l0_2 l1_0 a1_1 a1_2 a2_0 a2_1 a2_2 a2_3) = some r := by first | (rw [hy112]; with_reducible exact H) | (have H2_ := (Option.bind_some _ _).symm.trans H; rw [hy112]; with_reducible exact H2_) | (have H2_ := (Option.bind_some _ _).symm.trans H; with_reducible exact H2_) | with_reducible exact H | (rw [hy112]; exact H) | exact H
       have Ny112 := Aside0.mk hy112
       clear hy112
       have H' := Aside0.mk H
       clear H
       have hnb12 := NB101_102.out
       have hnc12 := NB102_101.out
       have hnb13 := NB101_103.out
       have hnc13 := NB103_101.out
       have hcz14_0 : wr.cell? ⟨gb101, 0, none⟩ = some (.slice A0_0 l0_0.length c0_0) := (blk_cell BK101.out 0).trans rfl
       have hcz14_1 : wr.cell? ⟨gb101, 1, none⟩ = some (.slice A0_1 l0_1.length c0_1) := (blk_cell BK101.out 1).trans rfl
       have hcz14_2 : wr.cell? ⟨gb101, 2, none⟩ = some (.slice A0_2 l0_2.length c0_2) := (blk_cell BK101.out 2).trans rfl
       have hfz14_0 := blk_frozen BK101.out 0
       have hfz14_1 := blk_frozen BK101.out 1
       have hfz14_2 := blk_frozen BK101.out 2
       try go_wp2
       have n0_ := Aside0.mk (Kd.R_drew HO_7.out)
       have n1_ := Aside0.mk (blk_drew BK101.out)
       have n2_ := Aside0.mk (blk_drew BK102.out)
       have n3_ := Aside0.mk (blk_drew BK103.out)
       have n4_ := Aside0.mk (below_drew1 HB.out)
       clear HO_7
       clear BK101
       clear BK102
       clear BK103
       clear HB
       have HO_7 := n0_
       have BK101 := n1_
       have BK102 := n2_
       have BK103 := n3_
       have HB := n4_
       clear n0_ n1_ n2_ n3_ n4_
       have p104 : 0 ≤ (x8_1 : Int) := of_decide_eq_true F42_
       have q104 : x8_1 < (l0_0.length : Int) := of_decide_eq_true F42_
       obtain ⟨ad104, e104, hx104_0, hx104_1, hx104_2, hx104_3, hx104_4, hx104_5, hx104_6, hx104_7, hx104_8, hx104_9⟩ := at_T150 HR0_0.out x8_1 p104 q104
       have hw104_9 := hx104_9
       have hw104_8 := hx104_8
       have hw104_7 := hx104_7
       have hw104_6 := hx104_6
       have hw104_5 := hx104_5
       have hw104_4 := hx104_4
       have hw104_3 := hx104_3
       have hw104_2 := hx104_2
       have hw104_1 := hx104_1
       have hw104_0 := hx104_0
       cases e104
       replace hx104_0 := (HB.out.cell (World.block_lt_of_cell? w _ hx104_0)).trans hx104_0
       replace hx104_1 := (HB.out.cell (World.block_lt_of_cell? w _ hx104_1)).trans hx104_1
       replace hx104_2 := (HB.out.cell (World.block_lt_of_cell? w _ hx104_2)).trans hx104_2
       replace hx104_3 := (HB.out.cell (World.block_lt_of_cell? w _ hx104_3)).trans hx104_3
       replace hx104_4 := (HB.out.cell (World.block_lt_of_cell? w _ hx104_4)).trans hx104_4
       replace hx104_5 := (HB.out.cell (World.block_lt_of_cell? w _ hx104_5)).trans hx104_5
       replace hx104_6 := (HB.out.cell (World.block_lt_of_cell? w _ hx104_6)).trans hx104_6
       replace hx104_7 := (HB.out.cell (World.block_lt_of_cell? w _ hx104_7)).trans hx104_7
       replace hx104_8 := (HB.out.cell (World.block_lt_of_cell? w _ hx104_8)).trans hx104_8
       replace hx104_9 := (HB.out.cell (World.block_lt_of_cell? w _ hx104_9)).trans hx104_9
       replace p104 := eq_true p104
       replace q104 := eq_true q104
       refine start_ (n := 16) (S := fun w' => w'.cell? ⟨gb101, 0, none⟩ = some (.slice (some ad104) l0_0.length c0_0) ∧ w'.cell? ⟨gb101, 1, none⟩ = some (.slice A0_1 l0_1.length c0_1) ∧ w'.cell? ⟨gb101, 2, none⟩ = some (.slice A0_2 l0_2.length c0_2) ∧ w'.cell? ⟨gb102, 0, none⟩ = some (.slice A1_0 l1_0.length c1_0) ∧ w'.cell? ⟨gb102, 1, none⟩ = some (.int .i64 a1_1) ∧ w'.cell? ⟨gb102, 2, none⟩ = some (.int .i64 a1_2) ∧ w'.cell? ⟨gb103, 0, none⟩ = some (.int .u64 a2_0) ∧ w'.cell? ⟨gb103, 1, none⟩ = some (.int .u64 a2_1) ∧ w'.cell? ⟨gb103, 2, none⟩ = some (.int .u64 a2_2) ∧ w'.cell? ⟨gb103, 3, none⟩ = some (.int .u64 a2_3) ∧ w'.cell? (ad104.add ((x8_1).toNat * 10)) = some (.int .i64 ((rd_T150 l0_0 x8_1).f0)) ∧ w'.cell? ⟨(ad104.add ((x8_1).toNat * 10)).block, (ad104.add ((x8_1).toNat * 10)).off + 1, none⟩ = some (.int .i64 ((rd_T150 l0_0 x8_1).f1)) ∧ w'.cell? ⟨(ad104.add ((x8_1).toNat * 10)).block, (ad104.add ((x8_1).toNat * 10)).off + 2, none⟩ = some (.int .u64 ((rd_T150 l0_0 x8_1).f2.f0)) ∧ w'.cell? ⟨(ad104.add ((x8_1).toNat * 10)).block, (ad104.add ((x8_1).toNat * 10)).off + 3, none⟩ = some (.int .u64 ((rd_T150 l0_0 x8_1).f2.f1)) ∧ w'.cell? ⟨(ad104.add ((x8_1).toNat * 10)).block, (ad104.add ((x8_1).toNat * 10)).off + 4, none⟩ = some (.int .u64 ((rd_T150 l0_0 x8_1).f2.f2)) ∧ w'.cell? ⟨(ad104.add ((x8_1).toNat * 10)).block, (ad104.add ((x8_1).toNat * 10)).off + 5, none⟩ = some (.int .u64 ((rd_T150 l0_0 x8_1).f2.f3)) ∧ w'.cell? ⟨(ad104.add ((x8_1).toNat * 10)).block, (ad104.add ((x8_1).toNat * 10)).off + 6, none⟩ = some (.int .u64 ((rd_T150 l0_0 x8_1).f3.f0)) ∧ w'.cell? ⟨(ad104.add ((x8_1).toNat * 10)).block, (ad104.add ((x8_1).toNat * 10)).off + 7, none⟩ = some (.int .u64 ((rd_T150 l0_0 x8_1).f3.f1)) ∧ w'.cell? ⟨(ad104.add ((x8_1).toNat * 10)).block, (ad104.add ((x8_1).toNat * 10)).off + 8, none⟩ = some (.int .u64 ((rd_T150 l0_0 x8_1).f3.f2)) ∧ w'.cell? ⟨(ad104.add ((x8_1).toNat * 10)).block, (ad104.add ((x8_1).toNat * 10)).off + 9, none⟩ = some (.int .u64 ((rd_T150 l0_0 x8_1).f3.f3))) (ds := []) #[false, false, false, false, false, false, false, false, false, false, false, false, false, false, false, false] (by kernel_rfl) rfl rfl ⟨(blk_cell BK101.out 0).trans rfl, (blk_cell BK101.out 1).trans rfl, (blk_cell BK101.out 2).trans rfl, (blk_cell BK102.out 0).trans rfl, (blk_cell BK102.out 1).trans rfl, (blk_cell BK102.out 2).trans rfl, (blk_cell BK103.out 0).trans rfl, (blk_cell BK103.out 1).trans rfl, (blk_cell BK103.out 2).trans rfl, (blk_cell BK103.out 3).trans rfl, ((HB.out.cell (World.block_lt_of_cell? w _ hw104_0)).trans hw104_0), ((HB.out.cell (World.block_lt_of_cell? w _ hw104_1)).trans hw104_1), ((HB.out.cell (World.block_lt_of_cell? w _ hw104_2)).trans hw104_2), ((HB.out.cell (World.block_lt_of_cell? w _ hw104_3)).trans hw104_3), ((HB.out.cell (World.block_lt_of_cell? w _ hw104_4)).trans hw104_4), ((HB.out.cell (World.block_lt_of_cell? w _ hw104_5)).trans hw104_5), ((HB.out.cell (World.block_lt_of_cell? w _ hw104_6)).trans hw104_6), ((HB.out.cell (World.block_lt_of_cell? w _ hw104_7)).trans hw104_7), ((HB.out.cell (World.block_lt_of_cell? w _ hw104_8)).trans hw104_8), ((HB.out.cell (World.block_lt_of_cell? w _ hw104_9)).trans hw104_9)⟩ (fun hHeld => ?_); refine with_tabW dunnageref14_Fits.tab5 dunnageref14_Fits.bits5 (fun HT_ HW_ => ?_)
       generalize wr.drew = w15 at HO_7 BK101 BK102 BK103 HB hx104_0 hx104_1 hx104_2 hx104_3 hx104_4 hx104_5 hx104_6 hx104_7 hx104_8 hx104_9 hHeld ⊢
       refine pure_ (i := 2) (N := some 21) (v := ?_) (a' := ?_) #[false, false, true, false, false, false, false, false, false, false, false, false, false, false, false, false] rfl rfl (any_of HT_.out (by kernel_rfl)) (fun _ _ _ h => h) (Or.inl ⟨by rfl, ?_⟩) ?_ ?_
       rotate_left
       ·intro w'
        go_simp
        with_reducible rfl
       rotate_left
       ·simp only [Act.put, List.setIfInBounds_toArray, List.set_cons_zero, List.set_cons_succ, i64_w, i32_w]
        rfl
       refine pure_ (i := 4) (N := some 23) (v := ?_) (a' := ?_) #[false, false, true, false, true, false, false, false, false, false, false, false, false, false, false, false] rfl rfl (any_of HT_.out (by kernel_rfl)) (fun _ _ _ h => h) (Or.inl ⟨by rfl, ?_⟩) ?_ ?_
       rotate_left
       ·intro w'
        go_simp
        with_reducible rfl
       rotate_left
       ·simp only [Act.put, List.setIfInBounds_toArray, List.set_cons_zero, List.set_cons_succ, i64_w, i32_w]
        rfl
       refine take_ (i := 0) (N := some 19) (v := ?_) (a' := ?_) #[true, false, true, false, true, false, false, false, false, false, false, false, false, false, false, false] rfl rfl (take_ofW HT_.out HW_.out (by kernel_rfl)) (fun _ _ _ h => h) (Or.inl ⟨by rfl, ?_⟩) hHeld ?_ ?_
       rotate_left
       ·rintro w' ⟨s0, s1, s2, s3, s4, s5, s6, s7, s8, s9, s10, s11, s12, s13, s14, s15, s16, s17, s18, s19⟩
        go_simp
        with_reducible rfl
       rotate_left
       ·simp only [Act.put, List.setIfInBounds_toArray, List.set_cons_zero, List.set_cons_succ, i64_w, i32_w]
        rfl
       refine take_ (i := 1) (N := some 20) (v := ?_) (a' := ?_) #[true, true, true, false, true, false, false, false, false, false, false, false, false, false, false, false] rfl rfl (take_ofW HT_.out HW_.out (by kernel_rfl)) (fun _ _ _ h => h) (Or.inl ⟨by rfl, ?_⟩) hHeld ?_ ?_
       rotate_left
       ·rintro w' ⟨s0, s1, s2, s3, s4, s5, s6, s7, s8, s9, s10, s11, s12, s13, s14, s15, s16, s17, s18, s19⟩
        go_simp
        with_reducible rfl
       rotate_left
       ·simp only [Act.put, List.setIfInBounds_toArray, List.set_cons_zero, List.set_cons_succ, i64_w, i32_w]
        rfl
       refine take_ (i := 3) (N := some 22) (v := ?_) (a' := ?_) #[true, true, true, true, true, false, false, false, false, false, false, false, false, false, false, false] rfl rfl (take_ofW HT_.out HW_.out (by kernel_rfl)) (fun _ _ _ h => h) (Or.inl ⟨by rfl, ?_⟩) hHeld ?_ ?_
       rotate_left
       ·rintro w' ⟨s0, s1, s2, s3, s4, s5, s6, s7, s8, s9, s10, s11, s12, s13, s14, s15, s16, s17, s18, s19⟩
        go_simp
        with_reducible rfl
       rotate_left
       ·simp only [Act.put, List.setIfInBounds_toArray, List.set_cons_zero, List.set_cons_succ, i64_w, i32_w]
        rfl
       refine pure_ (i := 5) (N := some 24) (v := ?_) (a' := ?_) #[true, true, true, true, true, true, false, false, false, false, false, false, false, false, false, false] rfl rfl (any_of HT_.out (by kernel_rfl)) (fun _ _ _ h => h) (Or.inl ⟨by rfl, ?_⟩) ?_ ?_
       rotate_left
       ·intro w'
        go_simp
        with_reducible rfl
       rotate_left
       ·simp only [Act.put, List.setIfInBounds_toArray, List.set_cons_zero, List.set_cons_succ, i64_w, i32_w]
        rfl
       refine pure_ (i := 6) (N := some 25) (v := ?_) (a' := ?_) #[true, true, true, true, true, true, true, false, false, false, false, false, false, false, false, false] rfl rfl (any_of HT_.out (by kernel_rfl)) (fun _ _ _ h => h) (Or.inl ⟨by rfl, ?_⟩) ?_ ?_
       rotate_left
       ·intro w'
        go_simp
        with_reducible rfl
       rotate_left
       ·simp only [Act.put, List.setIfInBounds_toArray, List.set_cons_zero, List.set_cons_succ, i64_w, i32_w]
        rfl
       refine take_ (i := 7) (N := some 26) (v := ?_) (a' := ?_) #[true, true, true, true, true, true, true, true, false, false, false, false, false, false, false, false] rfl rfl (take_ofW HT_.out HW_.out (by kernel_rfl)) (fun _ _ _ h => h) (Or.inl ⟨by rfl, ?_⟩) hHeld ?_ ?_
       rotate_left
       ·rintro w' ⟨s0, s1, s2, s3, s4, s5, s6, s7, s8, s9, s10, s11, s12, s13, s14, s15, s16, s17, s18, s19⟩
        go_simp
        with_reducible rfl
       rotate_left
       ·simp only [Act.put, List.setIfInBounds_toArray, List.set_cons_zero, List.set_cons_succ, i64_w, i32_w]
        rfl
       refine take_ (i := 8) (N := some 27) (v := ?_) (a' := ?_) #[true, true, true, true, true, true, true, true, true, false, false, false, false, false, false, false] rfl rfl (take_ofW HT_.out HW_.out (by kernel_rfl)) (fun _ _ _ h => h) (Or.inl ⟨by rfl, ?_⟩) hHeld ?_ ?_
       rotate_left
       ·rintro w' ⟨s0, s1, s2, s3, s4, s5, s6, s7, s8, s9, s10, s11, s12, s13, s14, s15, s16, s17, s18, s19⟩
        go_simp
        with_reducible rfl
       rotate_left
       ·simp only [Act.put, List.setIfInBounds_toArray, List.set_cons_zero, List.set_cons_succ, i64_w, i32_w]
        rfl
       refine join_ (σ := Nat) 2 #[true, true, true, true, true, true, true, true, true, true, true, true, true, true, false, false] (fun s_ => [(28, .tuple #[.agg #[.int .u64 t105, .int .u64 t106, .int .u64 t107, .int .u64 t108], .bool true]), (9, .pointer (some ⟨s_, 0, none⟩)), (18, .tuple #[.agg #[.int .u64 t105, .int .u64 t106, .int .u64 t107, .int .u64 t108], .bool true]), (29, .agg #[.int .u64 t105, .int .u64 t106, .int .u64 t107, .int .u64 t108]), (30, .bool true)]) (fun s_ w' => (w'.cell? ⟨gb101, 0, none⟩ = some (.slice (some ad104) l0_0.length c0_0) ∧ w'.cell? ⟨gb101, 1, none⟩ = some (.slice A0_1 l0_1.length c0_1) ∧ w'.cell? ⟨gb101, 2, none⟩ = some (.slice A0_2 l0_2.length c0_2) ∧ w'.cell? ⟨gb102, 0, none⟩ = some (.slice A1_0 l1_0.length c1_0) ∧ w'.cell? ⟨gb102, 1, none⟩ = some (.int .i64 a1_1) ∧ w'.cell? ⟨gb102, 2, none⟩ = some (.int .i64 a1_2) ∧ w'.cell? ⟨gb103, 0, none⟩ = some (.int .u64 a2_0) ∧ w'.cell? ⟨gb103, 1, none⟩ = some (.int .u64 a2_1) ∧ w'.cell? ⟨gb103, 2, none⟩ = some (.int .u64 a2_2) ∧ w'.cell? ⟨gb103, 3, none⟩ = some (.int .u64 a2_3) ∧ w'.cell? (ad104.add ((x8_1).toNat * 10)) = some (.int .i64 ((rd_T150 l0_0 x8_1).f0)) ∧ w'.cell? ⟨(ad104.add ((x8_1).toNat * 10)).block, (ad104.add ((x8_1).toNat * 10)).off + 1, none⟩ = some (.int .i64 ((rd_T150 l0_0 x8_1).f1)) ∧ w'.cell? ⟨(ad104.add ((x8_1).toNat * 10)).block, (ad104.add ((x8_1).toNat * 10)).off + 2, none⟩ = some (.int .u64 ((rd_T150 l0_0 x8_1).f2.f0)) ∧ w'.cell? ⟨(ad104.add ((x8_1).toNat * 10)).block, (ad104.add ((x8_1).toNat * 10)).off + 3, none⟩ = some (.int .u64 ((rd_T150 l0_0 x8_1).f2.f1)) ∧ w'.cell? ⟨(ad104.add ((x8_1).toNat * 10)).block, (ad104.add ((x8_1).toNat * 10)).off + 4, none⟩ = some (.int .u64 ((rd_T150 l0_0 x8_1).f2.f2)) ∧ w'.cell? ⟨(ad104.add ((x8_1).toNat * 10)).block, (ad104.add ((x8_1).toNat * 10)).off + 5, none⟩ = some (.int .u64 ((rd_T150 l0_0 x8_1).f2.f3)) ∧ w'.cell? ⟨(ad104.add ((x8_1).toNat * 10)).block, (ad104.add ((x8_1).toNat * 10)).off + 6, none⟩ = some (.int .u64 ((rd_T150 l0_0 x8_1).f3.f0)) ∧ w'.cell? ⟨(ad104.add ((x8_1).toNat * 10)).block, (ad104.add ((x8_1).toNat * 10)).off + 7, none⟩ = some (.int .u64 ((rd_T150 l0_0 x8_1).f3.f1)) ∧ w'.cell? ⟨(ad104.add ((x8_1).toNat * 10)).block, (ad104.add ((x8_1).toNat * 10)).off + 8, none⟩ = some (.int .u64 ((rd_T150 l0_0 x8_1).f3.f2)) ∧ w'.cell? ⟨(ad104.add ((x8_1).toNat * 10)).block, (ad104.add ((x8_1).toNat * 10)).off + 9, none⟩ = some (.int .u64 ((rd_T150 l0_0 x8_1).f3.f3))) ∧ (Kd.R (Kd.int .i64) 3 w' w.heap.size (fun _ => True) u7 x7_1) ∧ (w'.heap[gb101]? = some (.cells #[.slice (some ad104) l0_0.length c0_0, .slice A0_1 l0_1.length c0_1, .slice A0_2 l0_2.length c0_2] 96 (0, 0))) ∧ (w'.heap[gb102]? = some (.cells #[.slice A1_0 l1_0.length c1_0, .int .i64 a1_1, .int .i64 a1_2] 26 (0, 0))) ∧ (w'.heap[gb103]? = some (.cells #[.int .u64 a2_0, .int .u64 a2_1, .int .u64 a2_2, .int .u64 a2_3] 33 (0, 0))) ∧ (w'.heap[s_]? = some (.cells #[.int .u64 0, .int .u64 0, .int .u64 0, .int .u64 0] 33 (0, 0))) ∧ (w.heap.size ≤ s_) ∧ (w.heap.size ≤ s_) ∧ (gb101 ≠ s_) ∧ (s_ ≠ gb101) ∧ (gb102 ≠ s_) ∧ (s_ ≠ gb102) ∧ (gb103 ≠ s_) ∧ (s_ ≠ gb103) ∧ (Below w.heap.size w w')) ?_ ?_
       rotate_left
       ·intro hCont
        refine two_ (i := 9) (j := 13) (Ni := some 28) (Nj := some 9) #[true, true, true, true, true, true, true, true, true, true, false, false, false, false, false, false] #[true, true, true, true, true, true, true, true, true, false, false, false, false, true, false, false] rfl rfl rfl rfl (two_of HT_.out (by kernel_rfl)) (by decide) (by decide) (fun K hK => ?_) (fun K hK => ?_)
        ·skip
         refine goes_ Try.func115 (by kernel_rfl) rfl #[.agg #[.slice (some ad104) l0_0.length c0_0, .slice A0_1 l0_1.length c0_1, .slice A0_2 l0_2.length c0_2], .agg #[.slice A1_0 l1_0.length c1_0, .int .i64 a1_1, .int .i64 a1_2], .int .i64 ((rd_T150 l0_0 x8_1).f0), .agg #[.int .u64 a2_0, .int .u64 a2_1, .int .u64 a2_2, .int .u64 a2_3]] (by rfl) rfl rfl F26_ ?_
         with_reducible refine (dunnageref14_Left.calls k1 _ _ l0_0 _ _ l0_1 _ _ l0_2 _ _ l1_0 a1_1 a1_2 ((rd_T150 l0_0 x8_1).f0) a2_0 a2_1 a2_2 a2_3 t105 t106 t107 t108 true _ ?side1 ?side2 ?side3 ?side4 ?side5 ?side6 ?side7 ?side8 A9.out).mono ?_
         (case side1 => exact F22_)
         (case side2 => exact HC0_0.out)
         (case side3 => exact F23_)
         (case side4 => exact HC0_1.out)
         (case side5 => exact F24_)
         (case side6 => exact HC0_2.out)
         (case side7 => exact F25_)
         (case side8 => exact HC1_0.out)
         rintro e w16 ⟨rfl, hb⟩
         refine ⟨_, rfl, ?_⟩
         have n0_ := Aside0.mk (Kd.R_below F16_ hb)
         have n1_ := Aside0.mk (blk_below (g := gb101) (o := .cells #[.slice (some ad104) l0_0.length c0_0, .slice A0_1 l0_1.length c0_1, .slice A0_2 l0_2.length c0_2] 96 (0, 0)) F11_ hb)
         have n2_ := Aside0.mk (blk_below (g := gb102) (o := .cells #[.slice A1_0 l1_0.length c1_0, .int .i64 a1_1, .int .i64 a1_2] 26 (0, 0)) F13_ hb)
         have n3_ := Aside0.mk (blk_below (g := gb103) (o := .cells #[.int .u64 a2_0, .int .u64 a2_1, .int .u64 a2_2, .int .u64 a2_3] 33 (0, 0)) F14_ hb)
         have n4_ := Aside0.mk (below_step F12_ hb)
         clear HO_7
         clear BK101
         clear BK102
         clear BK103
         clear HB
         have HO_7 := n0_
         have BK101 := n1_
         have BK102 := n2_
         have BK103 := n3_
         have HB := n4_
         clear n0_ n1_ n2_ n3_ n4_
         (try clear hb)
         (try clear hb2)
         (try clear hk)
         (try clear hi)
         refine hK.out _ _ ⟨(blk_cell BK101.out 0).trans rfl, (blk_cell BK101.out 1).trans rfl, (blk_cell BK101.out 2).trans rfl, (blk_cell BK102.out 0).trans rfl, (blk_cell BK102.out 1).trans rfl, (blk_cell BK102.out 2).trans rfl, (blk_cell BK103.out 0).trans rfl, (blk_cell BK103.out 1).trans rfl, (blk_cell BK103.out 2).trans rfl, (blk_cell BK103.out 3).trans rfl, ((HB.out.cell (World.block_lt_of_cell? w _ hw104_0)).trans hw104_0), ((HB.out.cell (World.block_lt_of_cell? w _ hw104_1)).trans hw104_1), ((HB.out.cell (World.block_lt_of_cell? w _ hw104_2)).trans hw104_2), ((HB.out.cell (World.block_lt_of_cell? w _ hw104_3)).trans hw104_3), ((HB.out.cell (World.block_lt_of_cell? w _ hw104_4)).trans hw104_4), ((HB.out.cell (World.block_lt_of_cell? w _ hw104_5)).trans hw104_5), ((HB.out.cell (World.block_lt_of_cell? w _ hw104_6)).trans hw104_6), ((HB.out.cell (World.block_lt_of_cell? w _ hw104_7)).trans hw104_7), ((HB.out.cell (World.block_lt_of_cell? w _ hw104_8)).trans hw104_8), ((HB.out.cell (World.block_lt_of_cell? w _ hw104_9)).trans hw104_9)⟩ (fun hHeld => ?_)
         clear hK K
         refine norm_ (a' := ?_) ?_ ?_
         rotate_left
         ·show Act.put _ (some 28) _ = _
          simp only [Act.put, List.setIfInBounds_toArray, List.set_cons_zero, List.set_cons_succ, i64_w, i32_w]
          rfl
         refine pure_ (i := 10) (N := some 18) (v := ?_) (a' := ?_) #[true, true, true, true, true, true, true, true, true, true, true, false, false, false, false, false] rfl rfl (any_of HT_.out (by kernel_rfl)) (fun _ _ _ h => h) (Or.inl ⟨by rfl, ?_⟩) ?_ ?_
         rotate_left
         ·intro w'
          go_simp
          with_reducible rfl
         rotate_left
         ·simp only [Act.put, List.setIfInBounds_toArray, List.set_cons_zero, List.set_cons_succ, i64_w, i32_w]
          rfl
         refine pure_ (i := 11) (N := some 29) (v := ?_) (a' := ?_) #[true, true, true, true, true, true, true, true, true, true, true, true, false, false, false, false] rfl rfl (any_of HT_.out (by kernel_rfl)) (fun _ _ _ h => h) (Or.inl ⟨by rfl, ?_⟩) ?_ ?_
         rotate_left
         ·intro w'
          go_simp
          with_reducible rfl
         rotate_left
         ·simp only [Act.put, List.setIfInBounds_toArray, List.set_cons_zero, List.set_cons_succ, i64_w, i32_w]
          rfl
         refine pure_ (i := 12) (N := some 30) (v := ?_) (a' := ?_) #[true, true, true, true, true, true, true, true, true, true, true, true, true, false, false, false] rfl rfl (any_of HT_.out (by kernel_rfl)) (fun _ _ _ h => h) (Or.inl ⟨by rfl, ?_⟩) ?_ ?_
         rotate_left
         ·intro w'
          go_simp
          with_reducible rfl
         rotate_left
         ·simp only [Act.put, List.setIfInBounds_toArray, List.set_cons_zero, List.set_cons_succ, i64_w, i32_w]
          rfl
         refine one_ (i := 13) (N := some 9) #[true, true, true, true, true, true, true, true, true, true, true, true, true, true, false, false] rfl rfl (one_of HT_.out (by kernel_rfl)) (by decide) (fun K hK => ?_)
         refine box_step ?hg (N := 9) ?hd (cs := #[.int .u64 0, .int .u64 0, .int .u64 0, .int .u64 0]) (t := 33) ?hr ?_; (case hd => rfl); (case hg => rfl); (case hr => first | (go_simp; done) | (go_simp; rfl))
         intro gb110 hg w17 hbox hb
         have n0_ := Aside0.mk (Kd.R_below F16_ hb)
         have n1_ := Aside0.mk (blk_below (g := gb101) (o := .cells #[.slice (some ad104) l0_0.length c0_0, .slice A0_1 l0_1.length c0_1, .slice A0_2 l0_2.length c0_2] 96 (0, 0)) F11_ hb)
         have n2_ := Aside0.mk (blk_below (g := gb102) (o := .cells #[.slice A1_0 l1_0.length c1_0, .int .i64 a1_1, .int .i64 a1_2] 26 (0, 0)) F13_ hb)
         have n3_ := Aside0.mk (blk_below (g := gb103) (o := .cells #[.int .u64 a2_0, .int .u64 a2_1, .int .u64 a2_2, .int .u64 a2_3] 33 (0, 0)) F14_ hb)
         have n4_ := Aside0.mk (below_step F12_ hb)
         have n5_ := Aside0.mk (hbox)
         have n6_ := Aside0.mk ((by rw [hg]; exact (below_size F12_) : w.heap.size ≤ gb110))
         have n7_ := Aside0.mk ((by rw [hg]; exact (below_size F12_) : w.heap.size ≤ gb110))
         have n8_ := Aside0.mk ((by rw [hg]; exact Nat.ne_of_lt (blk_lt (g := gb101) (o := .cells #[.slice (some ad104) l0_0.length c0_0, .slice A0_1 l0_1.length c0_1, .slice A0_2 l0_2.length c0_2] 96 (0, 0)) F11_) : gb101 ≠ gb110))
         have n9_ := Aside0.mk ((by rw [hg]; exact Nat.ne_of_gt (blk_lt (g := gb101) (o := .cells #[.slice (some ad104) l0_0.length c0_0, .slice A0_1 l0_1.length c0_1, .slice A0_2 l0_2.length c0_2] 96 (0, 0)) F11_) : gb110 ≠ gb101))
         have n10_ := Aside0.mk ((by rw [hg]; exact Nat.ne_of_lt (blk_lt (g := gb102) (o := .cells #[.slice A1_0 l1_0.length c1_0, .int .i64 a1_1, .int .i64 a1_2] 26 (0, 0)) F13_) : gb102 ≠ gb110))
         have n11_ := Aside0.mk ((by rw [hg]; exact Nat.ne_of_gt (blk_lt (g := gb102) (o := .cells #[.slice A1_0 l1_0.length c1_0, .int .i64 a1_1, .int .i64 a1_2] 26 (0, 0)) F13_) : gb110 ≠ gb102))
         have n12_ := Aside0.mk ((by rw [hg]; exact Nat.ne_of_lt (blk_lt (g := gb103) (o := .cells #[.int .u64 a2_0, .int .u64 a2_1, .int .u64 a2_2, .int .u64 a2_3] 33 (0, 0)) F14_) : gb103 ≠ gb110))
         have n13_ := Aside0.mk ((by rw [hg]; exact Nat.ne_of_gt (blk_lt (g := gb103) (o := .cells #[.int .u64 a2_0, .int .u64 a2_1, .int .u64 a2_2, .int .u64 a2_3] 33 (0, 0)) F14_) : gb110 ≠ gb103))
         clear HO_7
         clear BK101
         clear BK102
         clear BK103
         clear HB
         have HO_7 := n0_
         have BK101 := n1_
         have BK102 := n2_
         have BK103 := n3_
         have HB := n4_
         have BK110 := n5_
         have GW110 := n6_
         have GE110 := n7_
         have NB101_110 := n8_
         have NB110_101 := n9_
         have NB102_110 := n10_
         have NB110_102 := n11_
         have NB103_110 := n12_
         have NB110_103 := n13_
         clear n0_ n1_ n2_ n3_ n4_ n5_ n6_ n7_ n8_ n9_ n10_ n11_ n12_ n13_
         clear hb hbox hg
         refine hK.out _ _ ⟨(blk_cell BK101.out 0).trans rfl, (blk_cell BK101.out 1).trans rfl, (blk_cell BK101.out 2).trans rfl, (blk_cell BK102.out 0).trans rfl, (blk_cell BK102.out 1).trans rfl, (blk_cell BK102.out 2).trans rfl, (blk_cell BK103.out 0).trans rfl, (blk_cell BK103.out 1).trans rfl, (blk_cell BK103.out 2).trans rfl, (blk_cell BK103.out 3).trans rfl, ((HB.out.cell (World.block_lt_of_cell? w _ hw104_0)).trans hw104_0), ((HB.out.cell (World.block_lt_of_cell? w _ hw104_1)).trans hw104_1), ((HB.out.cell (World.block_lt_of_cell? w _ hw104_2)).trans hw104_2), ((HB.out.cell (World.block_lt_of_cell? w _ hw104_3)).trans hw104_3), ((HB.out.cell (World.block_lt_of_cell? w _ hw104_4)).trans hw104_4), ((HB.out.cell (World.block_lt_of_cell? w _ hw104_5)).trans hw104_5), ((HB.out.cell (World.block_lt_of_cell? w _ hw104_6)).trans hw104_6), ((HB.out.cell (World.block_lt_of_cell? w _ hw104_7)).trans hw104_7), ((HB.out.cell (World.block_lt_of_cell? w _ hw104_8)).trans hw104_8), ((HB.out.cell (World.block_lt_of_cell? w _ hw104_9)).trans hw104_9)⟩ (fun hHeld => ?_)
         clear hK K
         refine norm_ (a' := ?_) ?_ ?_
         rotate_left
         ·show Act.put _ (some 9) _ = _
          simp only [Act.put, List.setIfInBounds_toArray, List.set_cons_zero, List.set_cons_succ, i64_w, i32_w]
          rfl
         exact norm_ F29_ (hCont (gb110) _ ⟨hHeld, F16_, F11_, F13_, F14_, F21_, GW110.out, GE110.out, NB101_110.out, NB110_101.out, NB102_110.out, NB110_102.out, NB103_110.out, NB110_103.out, F15_⟩)
        ·skip
         refine box_step ?hg (N := 9) ?hd (cs := #[.int .u64 0, .int .u64 0, .int .u64 0, .int .u64 0]) (t := 33) ?hr ?_; (case hd => rfl); (case hg => rfl); (case hr => first | (go_simp; done) | (go_simp; rfl))
         intro gb110 hg w16 hbox hb
         have n0_ := Aside0.mk (Kd.R_below F16_ hb)
         have n1_ := Aside0.mk (blk_below (g := gb101) (o := .cells #[.slice (some ad104) l0_0.length c0_0, .slice A0_1 l0_1.length c0_1, .slice A0_2 l0_2.length c0_2] 96 (0, 0)) F11_ hb)
         have n2_ := Aside0.mk (blk_below (g := gb102) (o := .cells #[.slice A1_0 l1_0.length c1_0, .int .i64 a1_1, .int .i64 a1_2] 26 (0, 0)) F13_ hb)
         have n3_ := Aside0.mk (blk_below (g := gb103) (o := .cells #[.int .u64 a2_0, .int .u64 a2_1, .int .u64 a2_2, .int .u64 a2_3] 33 (0, 0)) F14_ hb)
         have n4_ := Aside0.mk (below_step F12_ hb)
         have n5_ := Aside0.mk (hbox)
         have n6_ := Aside0.mk ((by rw [hg]; exact (below_size F12_) : w.heap.size ≤ gb110))
         have n7_ := Aside0.mk ((by rw [hg]; exact (below_size F12_) : w.heap.size ≤ gb110))
         have n8_ := Aside0.mk ((by rw [hg]; exact Nat.ne_of_lt (blk_lt (g := gb101) (o := .cells #[.slice (some ad104) l0_0.length c0_0, .slice A0_1 l0_1.length c0_1, .slice A0_2 l0_2.length c0_2] 96 (0, 0)) F11_) : gb101 ≠ gb110))
         have n9_ := Aside0.mk ((by rw [hg]; exact Nat.ne_of_gt (blk_lt (g := gb101) (o := .cells #[.slice (some ad104) l0_0.length c0_0, .slice A0_1 l0_1.length c0_1, .slice A0_2 l0_2.length c0_2] 96 (0, 0)) F11_) : gb110 ≠ gb101))
         have n10_ := Aside0.mk ((by rw [hg]; exact Nat.ne_of_lt (blk_lt (g := gb102) (o := .cells #[.slice A1_0 l1_0.length c1_0, .int .i64 a1_1, .int .i64 a1_2] 26 (0, 0)) F13_) : gb102 ≠ gb110))
         have n11_ := Aside0.mk ((by rw [hg]; exact Nat.ne_of_gt (blk_lt (g := gb102) (o := .cells #[.slice A1_0 l1_0.length c1_0, .int .i64 a1_1, .int .i64 a1_2] 26 (0, 0)) F13_) : gb110 ≠ gb102))
         have n12_ := Aside0.mk ((by rw [hg]; exact Nat.ne_of_lt (blk_lt (g := gb103) (o := .cells #[.int .u64 a2_0, .int .u64 a2_1, .int .u64 a2_2, .int .u64 a2_3] 33 (0, 0)) F14_) : gb103 ≠ gb110))
         have n13_ := Aside0.mk ((by rw [hg]; exact Nat.ne_of_gt (blk_lt (g := gb103) (o := .cells #[.int .u64 a2_0, .int .u64 a2_1, .int .u64 a2_2, .int .u64 a2_3] 33 (0, 0)) F14_) : gb110 ≠ gb103))
         clear HO_7
         clear BK101
         clear BK102
         clear BK103
         clear HB
         have HO_7 := n0_
         have BK101 := n1_
         have BK102 := n2_
         have BK103 := n3_
         have HB := n4_
         have BK110 := n5_
         have GW110 := n6_
         have GE110 := n7_
         have NB101_110 := n8_
         have NB110_101 := n9_
         have NB102_110 := n10_
         have NB110_102 := n11_
         have NB103_110 := n12_
         have NB110_103 := n13_
         clear n0_ n1_ n2_ n3_ n4_ n5_ n6_ n7_ n8_ n9_ n10_ n11_ n12_ n13_
         clear hb hbox hg
         refine hK.out _ _ ⟨(blk_cell BK101.out 0).trans rfl, (blk_cell BK101.out 1).trans rfl, (blk_cell BK101.out 2).trans rfl, (blk_cell BK102.out 0).trans rfl, (blk_cell BK102.out 1).trans rfl, (blk_cell BK102.out 2).trans rfl, (blk_cell BK103.out 0).trans rfl, (blk_cell BK103.out 1).trans rfl, (blk_cell BK103.out 2).trans rfl, (blk_cell BK103.out 3).trans rfl, ((HB.out.cell (World.block_lt_of_cell? w _ hw104_0)).trans hw104_0), ((HB.out.cell (World.block_lt_of_cell? w _ hw104_1)).trans hw104_1), ((HB.out.cell (World.block_lt_of_cell? w _ hw104_2)).trans hw104_2), ((HB.out.cell (World.block_lt_of_cell? w _ hw104_3)).trans hw104_3), ((HB.out.cell (World.block_lt_of_cell? w _ hw104_4)).trans hw104_4), ((HB.out.cell (World.block_lt_of_cell? w _ hw104_5)).trans hw104_5), ((HB.out.cell (World.block_lt_of_cell? w _ hw104_6)).trans hw104_6), ((HB.out.cell (World.block_lt_of_cell? w _ hw104_7)).trans hw104_7), ((HB.out.cell (World.block_lt_of_cell? w _ hw104_8)).trans hw104_8), ((HB.out.cell (World.block_lt_of_cell? w _ hw104_9)).trans hw104_9)⟩ (fun hHeld => ?_)
         clear hK K
         refine norm_ (a' := ?_) ?_ ?_
         rotate_left
         ·show Act.put _ (some 9) _ = _
          simp only [Act.put, List.setIfInBounds_toArray, List.set_cons_zero, List.set_cons_succ, i64_w, i32_w]
          rfl
         refine one_ (i := 9) (N := some 28) #[true, true, true, true, true, true, true, true, true, true, false, false, false, true, false, false] rfl rfl (one_of HT_.out (by kernel_rfl)) (by decide) (fun K hK => ?_)
         refine goes_ Try.func115 (by kernel_rfl) rfl #[.agg #[.slice (some ad104) l0_0.length c0_0, .slice A0_1 l0_1.length c0_1, .slice A0_2 l0_2.length c0_2], .agg #[.slice A1_0 l1_0.length c1_0, .int .i64 a1_1, .int .i64 a1_2], .int .i64 ((rd_T150 l0_0 x8_1).f0), .agg #[.int .u64 a2_0, .int .u64 a2_1, .int .u64 a2_2, .int .u64 a2_3]] (by rfl) rfl rfl F26_ ?_
         with_reducible refine (dunnageref14_Left.calls k1 _ _ l0_0 _ _ l0_1 _ _ l0_2 _ _ l1_0 a1_1 a1_2 ((rd_T150 l0_0 x8_1).f0) a2_0 a2_1 a2_2 a2_3 t105 t106 t107 t108 true _ ?side1 ?side2 ?side3 ?side4 ?side5 ?side6 ?side7 ?side8 A9.out).mono ?_
         (case side1 => exact F22_)
         (case side2 => exact HC0_0.out)
         (case side3 => exact F23_)
         (case side4 => exact HC0_1.out)
         (case side5 => exact F24_)
         (case side6 => exact HC0_2.out)
         (case side7 => exact F25_)
         (case side8 => exact HC1_0.out)
         rintro e w17 ⟨rfl, hb⟩
         refine ⟨_, rfl, ?_⟩
         have n0_ := Aside0.mk (Kd.R_below F16_ hb)
         have n1_ := Aside0.mk (blk_below (g := gb101) (o := .cells #[.slice (some ad104) l0_0.length c0_0, .slice A0_1 l0_1.length c0_1, .slice A0_2 l0_2.length c0_2] 96 (0, 0)) F11_ hb)
         have n2_ := Aside0.mk (blk_below (g := gb102) (o := .cells #[.slice A1_0 l1_0.length c1_0, .int .i64 a1_1, .int .i64 a1_2] 26 (0, 0)) F13_ hb)
         have n3_ := Aside0.mk (blk_below (g := gb103) (o := .cells #[.int .u64 a2_0, .int .u64 a2_1, .int .u64 a2_2, .int .u64 a2_3] 33 (0, 0)) F14_ hb)
         have n4_ := Aside0.mk (blk_below (g := gb110) (o := .cells #[.int .u64 0, .int .u64 0, .int .u64 0, .int .u64 0] 33 (0, 0)) F21_ hb)
         have n5_ := Aside0.mk (below_step F15_ hb)
         clear HO_7
         clear BK101
         clear BK102
         clear BK103
         clear BK110
         clear HB
         have HO_7 := n0_
         have BK101 := n1_
         have BK102 := n2_
         have BK103 := n3_
         have BK110 := n4_
         have HB := n5_
         clear n0_ n1_ n2_ n3_ n4_ n5_
         (try clear hb)
         (try clear hb2)
         (try clear hk)
         (try clear hi)
         refine hK.out _ _ ⟨(blk_cell BK101.out 0).trans rfl, (blk_cell BK101.out 1).trans rfl, (blk_cell BK101.out 2).trans rfl, (blk_cell BK102.out 0).trans rfl, (blk_cell BK102.out 1).trans rfl, (blk_cell BK102.out 2).trans rfl, (blk_cell BK103.out 0).trans rfl, (blk_cell BK103.out 1).trans rfl, (blk_cell BK103.out 2).trans rfl, (blk_cell BK103.out 3).trans rfl, ((HB.out.cell (World.block_lt_of_cell? w _ hw104_0)).trans hw104_0), ((HB.out.cell (World.block_lt_of_cell? w _ hw104_1)).trans hw104_1), ((HB.out.cell (World.block_lt_of_cell? w _ hw104_2)).trans hw104_2), ((HB.out.cell (World.block_lt_of_cell? w _ hw104_3)).trans hw104_3), ((HB.out.cell (World.block_lt_of_cell? w _ hw104_4)).trans hw104_4), ((HB.out.cell (World.block_lt_of_cell? w _ hw104_5)).trans hw104_5), ((HB.out.cell (World.block_lt_of_cell? w _ hw104_6)).trans hw104_6), ((HB.out.cell (World.block_lt_of_cell? w _ hw104_7)).trans hw104_7), ((HB.out.cell (World.block_lt_of_cell? w _ hw104_8)).trans hw104_8), ((HB.out.cell (World.block_lt_of_cell? w _ hw104_9)).trans hw104_9)⟩ (fun hHeld => ?_)
         clear hK K
         refine norm_ (a' := ?_) ?_ ?_
         rotate_left
         ·show Act.put _ (some 28) _ = _
          simp only [Act.put, List.setIfInBounds_toArray, List.set_cons_zero, List.set_cons_succ, i64_w, i32_w]
          rfl
         refine pure_ (i := 10) (N := some 18) (v := ?_) (a' := ?_) #[true, true, true, true, true, true, true, true, true, true, true, false, false, true, false, false] rfl rfl (any_of HT_.out (by kernel_rfl)) (fun _ _ _ h => h) (Or.inl ⟨by rfl, ?_⟩) ?_ ?_
         rotate_left
         ·intro w'
          go_simp
          with_reducible rfl
         rotate_left
         ·simp only [Act.put, List.setIfInBounds_toArray, List.set_cons_zero, List.set_cons_succ, i64_w, i32_w]
          rfl
         refine pure_ (i := 11) (N := some 29) (v := ?_) (a' := ?_) #[true, true, true, true, true, true, true, true, true, true, true, true, false, true, false, false] rfl rfl (any_of HT_.out (by kernel_rfl)) (fun _ _ _ h => h) (Or.inl ⟨by rfl, ?_⟩) ?_ ?_
         rotate_left
         ·intro w'
          go_simp
          with_reducible rfl
         rotate_left
         ·simp only [Act.put, List.setIfInBounds_toArray, List.set_cons_zero, List.set_cons_succ, i64_w, i32_w]
          rfl
         refine pure_ (i := 12) (N := some 30) (v := ?_) (a' := ?_) #[true, true, true, true, true, true, true, true, true, true, true, true, true, true, false, false] rfl rfl (any_of HT_.out (by kernel_rfl)) (fun _ _ _ h => h) (Or.inl ⟨by rfl, ?_⟩) ?_ ?_
         rotate_left
         ·intro w'
          go_simp
          with_reducible rfl
         rotate_left
         ·simp only [Act.put, List.setIfInBounds_toArray, List.set_cons_zero, List.set_cons_succ, i64_w, i32_w]
          rfl
         exact norm_ F29_ (hCont (gb110) _ ⟨hHeld, F16_, F11_, F13_, F14_, F21_, GW110.out, GE110.out, NB101_110.out, NB110_101.out, NB102_110.out, NB110_102.out, NB103_110.out, NB110_103.out, F15_⟩)
       rintro gb110 w18 ⟨hS_, h0_, h1_, h2_, h3_, h4_, h5_, h6_, h7_, h8_, h9_, h10_, h11_, h12_, h13_⟩
       have n0_ : Aside0 (Kd.R (Kd.int .i64) 3 w18 w.heap.size (fun _ => True) u7 x7_1) := ⟨h0_⟩
       have n1_ : Aside0 (w18.heap[gb101]? = some (.cells #[.slice (some ad104) l0_0.length c0_0, .slice A0_1 l0_1.length c0_1, .slice A0_2 l0_2.length c0_2] 96 (0, 0))) := ⟨h1_⟩
       have n2_ : Aside0 (w18.heap[gb102]? = some (.cells #[.slice A1_0 l1_0.length c1_0, .int .i64 a1_1, .int .i64 a1_2] 26 (0, 0))) := ⟨h2_⟩
       have n3_ : Aside0 (w18.heap[gb103]? = some (.cells #[.int .u64 a2_0, .int .u64 a2_1, .int .u64 a2_2, .int .u64 a2_3] 33 (0, 0))) := ⟨h3_⟩
       have n4_ : Aside0 (w18.heap[gb110]? = some (.cells #[.int .u64 0, .int .u64 0, .int .u64 0, .int .u64 0] 33 (0, 0))) := ⟨h4_⟩
       have n5_ : Aside0 (w.heap.size ≤ gb110) := ⟨h5_⟩
       have n6_ : Aside0 (w.heap.size ≤ gb110) := ⟨h6_⟩
       have n7_ : Aside0 (gb101 ≠ gb110) := ⟨h7_⟩
       have n8_ : Aside0 (gb110 ≠ gb101) := ⟨h8_⟩
       have n9_ : Aside0 (gb102 ≠ gb110) := ⟨h9_⟩
       have n10_ : Aside0 (gb110 ≠ gb102) := ⟨h10_⟩
       have n11_ : Aside0 (gb103 ≠ gb110) := ⟨h11_⟩
       have n12_ : Aside0 (gb110 ≠ gb103) := ⟨h12_⟩
       have n13_ : Aside0 (Below w.heap.size w w18) := ⟨h13_⟩
       clear HO_7
       clear BK101
       clear BK102
       clear BK103
       clear HB
       clear h0_ h1_ h2_ h3_ h4_ h5_ h6_ h7_ h8_ h9_ h10_ h11_ h12_ h13_
       have HO_7 := n0_
       have BK101 := n1_
       have BK102 := n2_
       have BK103 := n3_
       have BK110 := n4_
       have GW110 := n5_
       have GE110 := n6_
       have NB101_110 := n7_
       have NB110_101 := n8_
       have NB102_110 := n9_
       have NB110_102 := n10_
       have NB103_110 := n11_
       have NB110_103 := n12_
       have HB := n13_
       clear n0_ n1_ n2_ n3_ n4_ n5_ n6_ n7_ n8_ n9_ n10_ n11_ n12_ n13_
       have hHeld : w18.cell? ⟨gb101, 0, none⟩ = some (.slice (some ad104) l0_0.length c0_0) ∧ w18.cell? ⟨gb101, 1, none⟩ = some (.slice A0_1 l0_1.length c0_1) ∧ w18.cell? ⟨gb101, 2, none⟩ = some (.slice A0_2 l0_2.length c0_2) ∧ w18.cell? ⟨gb102, 0, none⟩ = some (.slice A1_0 l1_0.length c1_0) ∧ w18.cell? ⟨gb102, 1, none⟩ = some (.int .i64 a1_1) ∧ w18.cell? ⟨gb102, 2, none⟩ = some (.int .i64 a1_2) ∧ w18.cell? ⟨gb103, 0, none⟩ = some (.int .u64 a2_0) ∧ w18.cell? ⟨gb103, 1, none⟩ = some (.int .u64 a2_1) ∧ w18.cell? ⟨gb103, 2, none⟩ = some (.int .u64 a2_2) ∧ w18.cell? ⟨gb103, 3, none⟩ = some (.int .u64 a2_3) ∧ w18.cell? (ad104.add ((x8_1).toNat * 10)) = some (.int .i64 ((rd_T150 l0_0 x8_1).f0)) ∧ w18.cell? ⟨(ad104.add ((x8_1).toNat * 10)).block, (ad104.add ((x8_1).toNat * 10)).off + 1, none⟩ = some (.int .i64 ((rd_T150 l0_0 x8_1).f1)) ∧ w18.cell? ⟨(ad104.add ((x8_1).toNat * 10)).block, (ad104.add ((x8_1).toNat * 10)).off + 2, none⟩ = some (.int .u64 ((rd_T150 l0_0 x8_1).f2.f0)) ∧ w18.cell? ⟨(ad104.add ((x8_1).toNat * 10)).block, (ad104.add ((x8_1).toNat * 10)).off + 3, none⟩ = some (.int .u64 ((rd_T150 l0_0 x8_1).f2.f1)) ∧ w18.cell? ⟨(ad104.add ((x8_1).toNat * 10)).block, (ad104.add ((x8_1).toNat * 10)).off + 4, none⟩ = some (.int .u64 ((rd_T150 l0_0 x8_1).f2.f2)) ∧ w18.cell? ⟨(ad104.add ((x8_1).toNat * 10)).block, (ad104.add ((x8_1).toNat * 10)).off + 5, none⟩ = some (.int .u64 ((rd_T150 l0_0 x8_1).f2.f3)) ∧ w18.cell? ⟨(ad104.add ((x8_1).toNat * 10)).block, (ad104.add ((x8_1).toNat * 10)).off + 6, none⟩ = some (.int .u64 ((rd_T150 l0_0 x8_1).f3.f0)) ∧ w18.cell? ⟨(ad104.add ((x8_1).toNat * 10)).block, (ad104.add ((x8_1).toNat * 10)).off + 7, none⟩ = some (.int .u64 ((rd_T150 l0_0 x8_1).f3.f1)) ∧ w18.cell? ⟨(ad104.add ((x8_1).toNat * 10)).block, (ad104.add ((x8_1).toNat * 10)).off + 8, none⟩ = some (.int .u64 ((rd_T150 l0_0 x8_1).f3.f2)) ∧ w18.cell? ⟨(ad104.add ((x8_1).toNat * 10)).block, (ad104.add ((x8_1).toNat * 10)).off + 9, none⟩ = some (.int .u64 ((rd_T150 l0_0 x8_1).f3.f3)) := hS_
       refine norm_ (a' := ?_) ?_ ?_
       rotate_left
       ·simp only [putAll, Act.put, List.setIfInBounds_toArray, List.set_cons_zero, List.set_cons_succ]
        rfl
       refine one_ (i := 14) (N := none) #[true, true, true, true, true, true, true, true, true, true, true, true, true, true, true, false] rfl rfl (one_of HT_.out (by kernel_rfl)) (by decide) (fun K hK => ?_)
       have hs19 : w18.cell? ⟨gb110, 0, none⟩ = some (.int .u64 0) := (blk_cell BK110.out 0).trans rfl
       have hfs19 := blk_frozen BK110.out 0
       have hns19_0 := NB101_110.out
       have hns19_1 := NB102_110.out
       have hns19_2 := NB103_110.out
       have hms19_0 := NB110_101.out
       have hms19_1 := NB110_102.out
       have hms19_2 := NB110_103.out
       have hs20 : w18.cell? ⟨gb110, 1, none⟩ = some (.int .u64 0) := (blk_cell BK110.out 1).trans rfl
       have hfs20 := blk_frozen BK110.out 1
       have hns20_0 := NB101_110.out
       have hns20_1 := NB102_110.out
       have hns20_2 := NB103_110.out
       have hms20_0 := NB110_101.out
       have hms20_1 := NB110_102.out
       have hms20_2 := NB110_103.out
       have hs21 : w18.cell? ⟨gb110, 2, none⟩ = some (.int .u64 0) := (blk_cell BK110.out 2).trans rfl
       have hfs21 := blk_frozen BK110.out 2
       have hns21_0 := NB101_110.out
       have hns21_1 := NB102_110.out
       have hns21_2 := NB103_110.out
       have hms21_0 := NB110_101.out
       have hms21_1 := NB110_102.out
       have hms21_2 := NB110_103.out
       have hs22 : w18.cell? ⟨gb110, 3, none⟩ = some (.int .u64 0) := (blk_cell BK110.out 3).trans rfl
       have hfs22 := blk_frozen BK110.out 3
       have hns22_0 := NB101_110.out
       have hns22_1 := NB102_110.out
       have hns22_2 := NB103_110.out
       have hms22_0 := NB110_101.out
       have hms22_1 := NB110_102.out
       have hms22_2 := NB110_103.out
       refine skip_ (w1 := ?_) (by rfl) rfl ?_ ?_
       rotate_left
       ·go_simp
        rfl
       refine hK.out _ _ ⟨((cell_far (p := ⟨gb110, _, none⟩) NB101_110.out _).trans (((cell_far (p := ⟨gb110, _, none⟩) NB101_110.out _).trans (((cell_far (p := ⟨gb110, _, none⟩) NB101_110.out _).trans (((cell_far (p := ⟨gb110, _, none⟩) NB101_110.out _).trans (hHeld.1)))))))), ((cell_far (p := ⟨gb110, _, none⟩) NB101_110.out _).trans (((cell_far (p := ⟨gb110, _, none⟩) NB101_110.out _).trans (((cell_far (p := ⟨gb110, _, none⟩) NB101_110.out _).trans (((cell_far (p := ⟨gb110, _, none⟩) NB101_110.out _).trans (hHeld.2.1)))))))), ((cell_far (p := ⟨gb110, _, none⟩) NB101_110.out _).trans (((cell_far (p := ⟨gb110, _, none⟩) NB101_110.out _).trans (((cell_far (p := ⟨gb110, _, none⟩) NB101_110.out _).trans (((cell_far (p := ⟨gb110, _, none⟩) NB101_110.out _).trans (hHeld.2.2.1)))))))), ((cell_far (p := ⟨gb110, _, none⟩) NB102_110.out _).trans (((cell_far (p := ⟨gb110, _, none⟩) NB102_110.out _).trans (((cell_far (p := ⟨gb110, _, none⟩) NB102_110.out _).trans (((cell_far (p := ⟨gb110, _, none⟩) NB102_110.out _).trans (hHeld.2.2.2.1)))))))), ((cell_far (p := ⟨gb110, _, none⟩) NB102_110.out _).trans (((cell_far (p := ⟨gb110, _, none⟩) NB102_110.out _).trans (((cell_far (p := ⟨gb110, _, none⟩) NB102_110.out _).trans (((cell_far (p := ⟨gb110, _, none⟩) NB102_110.out _).trans (hHeld.2.2.2.2.1)))))))), ((cell_far (p := ⟨gb110, _, none⟩) NB102_110.out _).trans (((cell_far (p := ⟨gb110, _, none⟩) NB102_110.out _).trans (((cell_far (p := ⟨gb110, _, none⟩) NB102_110.out _).trans (((cell_far (p := ⟨gb110, _, none⟩) NB102_110.out _).trans (hHeld.2.2.2.2.2.1)))))))), ((cell_far (p := ⟨gb110, _, none⟩) NB103_110.out _).trans (((cell_far (p := ⟨gb110, _, none⟩) NB103_110.out _).trans (((cell_far (p := ⟨gb110, _, none⟩) NB103_110.out _).trans (((cell_far (p := ⟨gb110, _, none⟩) NB103_110.out _).trans (hHeld.2.2.2.2.2.2.1)))))))), ((cell_far (p := ⟨gb110, _, none⟩) NB103_110.out _).trans (((cell_far (p := ⟨gb110, _, none⟩) NB103_110.out _).trans (((cell_far (p := ⟨gb110, _, none⟩) NB103_110.out _).trans (((cell_far (p := ⟨gb110, _, none⟩) NB103_110.out _).trans (hHeld.2.2.2.2.2.2.2.1)))))))), ((cell_far (p := ⟨gb110, _, none⟩) NB103_110.out _).trans (((cell_far (p := ⟨gb110, _, none⟩) NB103_110.out _).trans (((cell_far (p := ⟨gb110, _, none⟩) NB103_110.out _).trans (((cell_far (p := ⟨gb110, _, none⟩) NB103_110.out _).trans (hHeld.2.2.2.2.2.2.2.2.1)))))))), ((cell_far (p := ⟨gb110, _, none⟩) NB103_110.out _).trans (((cell_far (p := ⟨gb110, _, none⟩) NB103_110.out _).trans (((cell_far (p := ⟨gb110, _, none⟩) NB103_110.out _).trans (((cell_far (p := ⟨gb110, _, none⟩) NB103_110.out _).trans (hHeld.2.2.2.2.2.2.2.2.2.1)))))))), ((cell_far (p := ⟨gb110, _, none⟩) F1_ _).trans (((cell_far (p := ⟨gb110, _, none⟩) F1_ _).trans (((cell_far (p := ⟨gb110, _, none⟩) F1_ _).trans (((cell_far (p := ⟨gb110, _, none⟩) F1_ _).trans (hHeld.2.2.2.2.2.2.2.2.2.2.1)))))))), ((cell_far (p := ⟨gb110, _, none⟩) F2_ _).trans (((cell_far (p := ⟨gb110, _, none⟩) F2_ _).trans (((cell_far (p := ⟨gb110, _, none⟩) F2_ _).trans (((cell_far (p := ⟨gb110, _, none⟩) F2_ _).trans (hHeld.2.2.2.2.2.2.2.2.2.2.2.1)))))))), ((cell_far (p := ⟨gb110, _, none⟩) F3_ _).trans (((cell_far (p := ⟨gb110, _, none⟩) F3_ _).trans (((cell_far (p := ⟨gb110, _, none⟩) F3_ _).trans (((cell_far (p := ⟨gb110, _, none⟩) F3_ _).trans (hHeld.2.2.2.2.2.2.2.2.2.2.2.2.1)))))))), ((cell_far (p := ⟨gb110, _, none⟩) F4_ _).trans (((cell_far (p := ⟨gb110, _, none⟩) F4_ _).trans (((cell_far (p := ⟨gb110, _, none⟩) F4_ _).trans (((cell_far (p := ⟨gb110, _, none⟩) F4_ _).trans (hHeld.2.2.2.2.2.2.2.2.2.2.2.2.2.1)))))))), ((cell_far (p := ⟨gb110, _, none⟩) F5_ _).trans (((cell_far (p := ⟨gb110, _, none⟩) F5_ _).trans (((cell_far (p := ⟨gb110, _, none⟩) F5_ _).trans (((cell_far (p := ⟨gb110, _, none⟩) F5_ _).trans (hHeld.2.2.2.2.2.2.2.2.2.2.2.2.2.2.1)))))))), ((cell_far (p := ⟨gb110, _, none⟩) F6_ _).trans (((cell_far (p := ⟨gb110, _, none⟩) F6_ _).trans (((cell_far (p := ⟨gb110, _, none⟩) F6_ _).trans (((cell_far (p := ⟨gb110, _, none⟩) F6_ _).trans (hHeld.2.2.2.2.2.2.2.2.2.2.2.2.2.2.2.1)))))))), ((cell_far (p := ⟨gb110, _, none⟩) F7_ _).trans (((cell_far (p := ⟨gb110, _, none⟩) F7_ _).trans (((cell_far (p := ⟨gb110, _, none⟩) F7_ _).trans (((cell_far (p := ⟨gb110, _, none⟩) F7_ _).trans (hHeld.2.2.2.2.2.2.2.2.2.2.2.2.2.2.2.2.1)))))))), ((cell_far (p := ⟨gb110, _, none⟩) F8_ _).trans (((cell_far (p := ⟨gb110, _, none⟩) F8_ _).trans (((cell_far (p := ⟨gb110, _, none⟩) F8_ _).trans (((cell_far (p := ⟨gb110, _, none⟩) F8_ _).trans (hHeld.2.2.2.2.2.2.2.2.2.2.2.2.2.2.2.2.2.1)))))))), ((cell_far (p := ⟨gb110, _, none⟩) F9_ _).trans (((cell_far (p := ⟨gb110, _, none⟩) F9_ _).trans (((cell_far (p := ⟨gb110, _, none⟩) F9_ _).trans (((cell_far (p := ⟨gb110, _, none⟩) F9_ _).trans (hHeld.2.2.2.2.2.2.2.2.2.2.2.2.2.2.2.2.2.2.1)))))))), ((cell_far (p := ⟨gb110, _, none⟩) F10_ _).trans (((cell_far (p := ⟨gb110, _, none⟩) F10_ _).trans (((cell_far (p := ⟨gb110, _, none⟩) F10_ _).trans (((cell_far (p := ⟨gb110, _, none⟩) F10_ _).trans (hHeld.2.2.2.2.2.2.2.2.2.2.2.2.2.2.2.2.2.2.2))))))))⟩ (fun hHeld => ?_)
       clear hK K
       refine pure_ (i := 15) (N := some 10) (v := ?_) (a' := ?_) #[true, true, true, true, true, true, true, true, true, true, true, true, true, true, true, true] rfl rfl (any_of HT_.out (by kernel_rfl)) (fun _ _ _ h => h) (Or.inl ⟨by rfl, ?_⟩) ?_ ?_
       rotate_left
       ·intro w'
        go_simp
        with_reducible rfl
       rotate_left
       ·simp only [Act.put, List.setIfInBounds_toArray, List.set_cons_zero, List.set_cons_succ, i64_w, i32_w]
        rfl
       refine done_ (done_of HT_.out (by kernel_rfl)) ?_
       have hnb23 := NB101_110.out
       have hnc23 := NB110_101.out
       have hcz24_0 : w18.cell? ⟨gb101, 0, none⟩ = some (.slice (some ad104) l0_0.length c0_0) := (blk_cell BK101.out 0).trans rfl
       have hcz24_1 : w18.cell? ⟨gb101, 1, none⟩ = some (.slice A0_1 l0_1.length c0_1) := (blk_cell BK101.out 1).trans rfl
       have hcz24_2 : w18.cell? ⟨gb101, 2, none⟩ = some (.slice A0_2 l0_2.length c0_2) := (blk_cell BK101.out 2).trans rfl
       have hfz24_0 := blk_frozen BK101.out 0
       have hfz24_1 := blk_frozen BK101.out 1
       have hfz24_2 := blk_frozen BK101.out 2
       have p111 : 0 ≤ (x8_1 : Int) := of_decide_eq_true F42_
       have q111 : x8_1 < (l0_0.length : Int) := of_decide_eq_true F42_
       obtain ⟨ad111, e111, hx111_0, hx111_1, hx111_2, hx111_3, hx111_4, hx111_5, hx111_6, hx111_7, hx111_8, hx111_9⟩ := at_T150 HR0_0.out x8_1 p111 q111
       obtain rfl : ad104 = ad111 := (by injection e111)
       have hn111_0 : ad104.block ≠ gb110 := Nat.ne_of_lt (Nat.lt_of_lt_of_le F30_ GW110.out)
       have hn111_1 : ad104.block ≠ gb110 := Nat.ne_of_lt (Nat.lt_of_lt_of_le F30_ GW110.out)
       have hn111_2 : ad104.block ≠ gb110 := Nat.ne_of_lt (Nat.lt_of_lt_of_le F30_ GW110.out)
       have hn111_3 : ad104.block ≠ gb110 := Nat.ne_of_lt (Nat.lt_of_lt_of_le F30_ GW110.out)
       replace hx111_0 := (HB.out.cell (World.block_lt_of_cell? w _ hx111_0)).trans hx111_0
       replace hx111_1 := (HB.out.cell (World.block_lt_of_cell? w _ hx111_1)).trans hx111_1
       replace hx111_2 := (HB.out.cell (World.block_lt_of_cell? w _ hx111_2)).trans hx111_2
       replace hx111_3 := (HB.out.cell (World.block_lt_of_cell? w _ hx111_3)).trans hx111_3
       replace hx111_4 := (HB.out.cell (World.block_lt_of_cell? w _ hx111_4)).trans hx111_4
       replace hx111_5 := (HB.out.cell (World.block_lt_of_cell? w _ hx111_5)).trans hx111_5
       replace hx111_6 := (HB.out.cell (World.block_lt_of_cell? w _ hx111_6)).trans hx111_6
       replace hx111_7 := (HB.out.cell (World.block_lt_of_cell? w _ hx111_7)).trans hx111_7
       replace hx111_8 := (HB.out.cell (World.block_lt_of_cell? w _ hx111_8)).trans hx111_8
       replace hx111_9 := (HB.out.cell (World.block_lt_of_cell? w _ hx111_9)).trans hx111_9
       replace hx111_0 := (cell_far (p := ⟨gb110, 0, none⟩) F17_ (.int .u64 t105)).trans hx111_0
       replace hx111_1 := (cell_far (p := ⟨gb110, 0, none⟩) F17_ (.int .u64 t105)).trans hx111_1
       replace hx111_2 := (cell_far (p := ⟨gb110, 0, none⟩) F17_ (.int .u64 t105)).trans hx111_2
       replace hx111_3 := (cell_far (p := ⟨gb110, 0, none⟩) F17_ (.int .u64 t105)).trans hx111_3
       replace hx111_4 := (cell_far (p := ⟨gb110, 0, none⟩) F17_ (.int .u64 t105)).trans hx111_4
       replace hx111_5 := (cell_far (p := ⟨gb110, 0, none⟩) F17_ (.int .u64 t105)).trans hx111_5
       replace hx111_6 := (cell_far (p := ⟨gb110, 0, none⟩) F17_ (.int .u64 t105)).trans hx111_6
       replace hx111_7 := (cell_far (p := ⟨gb110, 0, none⟩) F17_ (.int .u64 t105)).trans hx111_7
       replace hx111_8 := (cell_far (p := ⟨gb110, 0, none⟩) F17_ (.int .u64 t105)).trans hx111_8
       replace hx111_9 := (cell_far (p := ⟨gb110, 0, none⟩) F17_ (.int .u64 t105)).trans hx111_9
       replace hx111_0 := (cell_far (p := ⟨gb110, 1, none⟩) F18_ (.int .u64 t106)).trans hx111_0
       replace hx111_1 := (cell_far (p := ⟨gb110, 1, none⟩) F18_ (.int .u64 t106)).trans hx111_1
       replace hx111_2 := (cell_far (p := ⟨gb110, 1, none⟩) F18_ (.int .u64 t106)).trans hx111_2
       replace hx111_3 := (cell_far (p := ⟨gb110, 1, none⟩) F18_ (.int .u64 t106)).trans hx111_3
       replace hx111_4 := (cell_far (p := ⟨gb110, 1, none⟩) F18_ (.int .u64 t106)).trans hx111_4
       replace hx111_5 := (cell_far (p := ⟨gb110, 1, none⟩) F18_ (.int .u64 t106)).trans hx111_5
       replace hx111_6 := (cell_far (p := ⟨gb110, 1, none⟩) F18_ (.int .u64 t106)).trans hx111_6
       replace hx111_7 := (cell_far (p := ⟨gb110, 1, none⟩) F18_ (.int .u64 t106)).trans hx111_7
       replace hx111_8 := (cell_far (p := ⟨gb110, 1, none⟩) F18_ (.int .u64 t106)).trans hx111_8
       replace hx111_9 := (cell_far (p := ⟨gb110, 1, none⟩) F18_ (.int .u64 t106)).trans hx111_9
       replace hx111_0 := (cell_far (p := ⟨gb110, 2, none⟩) F19_ (.int .u64 t107)).trans hx111_0
       replace hx111_1 := (cell_far (p := ⟨gb110, 2, none⟩) F19_ (.int .u64 t107)).trans hx111_1
       replace hx111_2 := (cell_far (p := ⟨gb110, 2, none⟩) F19_ (.int .u64 t107)).trans hx111_2
       replace hx111_3 := (cell_far (p := ⟨gb110, 2, none⟩) F19_ (.int .u64 t107)).trans hx111_3
       replace hx111_4 := (cell_far (p := ⟨gb110, 2, none⟩) F19_ (.int .u64 t107)).trans hx111_4
       replace hx111_5 := (cell_far (p := ⟨gb110, 2, none⟩) F19_ (.int .u64 t107)).trans hx111_5
       replace hx111_6 := (cell_far (p := ⟨gb110, 2, none⟩) F19_ (.int .u64 t107)).trans hx111_6
       replace hx111_7 := (cell_far (p := ⟨gb110, 2, none⟩) F19_ (.int .u64 t107)).trans hx111_7
       replace hx111_8 := (cell_far (p := ⟨gb110, 2, none⟩) F19_ (.int .u64 t107)).trans hx111_8
       replace hx111_9 := (cell_far (p := ⟨gb110, 2, none⟩) F19_ (.int .u64 t107)).trans hx111_9
       replace hx111_0 := (cell_far (p := ⟨gb110, 3, none⟩) F20_ (.int .u64 t108)).trans hx111_0
       replace hx111_1 := (cell_far (p := ⟨gb110, 3, none⟩) F20_ (.int .u64 t108)).trans hx111_1
       replace hx111_2 := (cell_far (p := ⟨gb110, 3, none⟩) F20_ (.int .u64 t108)).trans hx111_2
       replace hx111_3 := (cell_far (p := ⟨gb110, 3, none⟩) F20_ (.int .u64 t108)).trans hx111_3
       replace hx111_4 := (cell_far (p := ⟨gb110, 3, none⟩) F20_ (.int .u64 t108)).trans hx111_4
       replace hx111_5 := (cell_far (p := ⟨gb110, 3, none⟩) F20_ (.int .u64 t108)).trans hx111_5
       replace hx111_6 := (cell_far (p := ⟨gb110, 3, none⟩) F20_ (.int .u64 t108)).trans hx111_6
       replace hx111_7 := (cell_far (p := ⟨gb110, 3, none⟩) F20_ (.int .u64 t108)).trans hx111_7
       replace hx111_8 := (cell_far (p := ⟨gb110, 3, none⟩) F20_ (.int .u64 t108)).trans hx111_8
       replace hx111_9 := (cell_far (p := ⟨gb110, 3, none⟩) F20_ (.int .u64 t108)).trans hx111_9
       clear hn111_0
       clear hn111_1
       clear hn111_2
       clear hn111_3
       replace p111 := eq_true p111
       replace q111 := eq_true q111
       try go_wp2_with (first | ((with_reducible refine gate_builtin (b := .append) (xs := #[.tmp 32, .tmp 39]) rfl ?_); at_builtin; refine Kd.R_append (Kd.int .i64) (w0 := w) w.heap.size rfl (.tmp 32) (.tmp 39) 71 3 (.int .i64 0) 8 rfl Try.underlying71 info3 rfl (by decide) (by omega) u7 x7_1 ((rd_T150 l0_0 x8_1).f0) [.int .i64 ((rd_T150 l0_0 x8_1).f0)] (fun _ => True) (fun _ => False) rfl (by first | (go_simp; done) | (go_simp; rfl)) ?aP (fun _ hk => hk.elim) ?aF ?aO ?aB ?aS ?aL ?_; (case aP => exact rfl); (case aB => exact F15_); (case aF => exact (fun _ _ => trivial)); (case aO => exact (by (with_reducible repeat (first | apply Kd.R_alloc | apply Kd.R_drewN | apply Kd.R_drew)); exact Kd.R_mono (Kd.R_far (p := ⟨gb110, 3, none⟩) (Kd.R_far (p := ⟨gb110, 2, none⟩) (Kd.R_far (p := ⟨gb110, 1, none⟩) (Kd.R_far (p := ⟨gb110, 0, none⟩) (Kd.R_types HO_7.out BK110.out (by decide)) (fun _ hk => hk.2) (.int .u64 t105)) (fun _ hk => hk.2) (.int .u64 t106)) (fun _ hk => hk.2) (.int .u64 t107)) (fun _ hk => hk.2) (.int .u64 t108)) (fun _ hk => trivial))); (case aS => exact (below_size F15_)); (case aL => have := LMc11.out; omega); intro v113 w25 ho hb hg hat; rw [← Ny112.out] at ho; have n0_ := Aside0.mk (blk_grown (g := gb101) (o := .cells #[.slice (some ad104) l0_0.length c0_0, .slice A0_1 l0_1.length c0_1, .slice A0_2 l0_2.length c0_2] 96 (0, 0)) (by (with_reducible repeat (first | refine blk_drewN ?_ _ | refine blk_drew ?_ | refine blk_alloc ?_ _)); refine blk_far ?_ NB101_110.out _; (with_reducible repeat (first | refine blk_drewN ?_ _ | refine blk_drew ?_ | refine blk_alloc ?_ _)); refine blk_far ?_ NB101_110.out _; (with_reducible repeat (first | refine blk_drewN ?_ _ | refine blk_drew ?_ | refine blk_alloc ?_ _)); refine blk_far ?_ NB101_110.out _; (with_reducible repeat (first | refine blk_drewN ?_ _ | refine blk_drew ?_ | refine blk_alloc ?_ _)); refine blk_far ?_ NB101_110.out _; (with_reducible repeat (first | refine blk_drewN ?_ _ | refine blk_drew ?_ | refine blk_alloc ?_ _)); exact BK101.out) hg (Kd.R_ne HO_7.out BK101.out (by decide))); have n1_ := Aside0.mk (blk_grown (g := gb102) (o := .cells #[.slice A1_0 l1_0.length c1_0, .int .i64 a1_1, .int .i64 a1_2] 26 (0, 0)) (by (with_reducible repeat (first | refine blk_drewN ?_ _ | refine blk_drew ?_ | refine blk_alloc ?_ _)); refine blk_far ?_ NB102_110.out _; (with_reducible repeat (first | refine blk_drewN ?_ _ | refine blk_drew ?_ | refine blk_alloc ?_ _)); refine blk_far ?_ NB102_110.out _; (with_reducible repeat (first | refine blk_drewN ?_ _ | refine blk_drew ?_ | refine blk_alloc ?_ _)); refine blk_far ?_ NB102_110.out _; (with_reducible repeat (first | refine blk_drewN ?_ _ | refine blk_drew ?_ | refine blk_alloc ?_ _)); refine blk_far ?_ NB102_110.out _; (with_reducible repeat (first | refine blk_drewN ?_ _ | refine blk_drew ?_ | refine blk_alloc ?_ _)); exact BK102.out) hg (Kd.R_ne HO_7.out BK102.out (by decide))); have n2_ := Aside0.mk (blk_grown (g := gb103) (o := .cells #[.int .u64 a2_0, .int .u64 a2_1, .int .u64 a2_2, .int .u64 a2_3] 33 (0, 0)) (by (with_reducible repeat (first | refine blk_drewN ?_ _ | refine blk_drew ?_ | refine blk_alloc ?_ _)); refine blk_far ?_ NB103_110.out _; (with_reducible repeat (first | refine blk_drewN ?_ _ | refine blk_drew ?_ | refine blk_alloc ?_ _)); refine blk_far ?_ NB103_110.out _; (with_reducible repeat (first | refine blk_drewN ?_ _ | refine blk_drew ?_ | refine blk_alloc ?_ _)); refine blk_far ?_ NB103_110.out _; (with_reducible repeat (first | refine blk_drewN ?_ _ | refine blk_drew ?_ | refine blk_alloc ?_ _)); refine blk_far ?_ NB103_110.out _; (with_reducible repeat (first | refine blk_drewN ?_ _ | refine blk_drew ?_ | refine blk_alloc ?_ _)); exact BK103.out) hg (Kd.R_ne HO_7.out BK103.out (by decide))); have n3_ := Aside0.mk (blk_grown (g := gb110) (o := .cells #[.int .u64 t105, .int .u64 t106, .int .u64 t107, .int .u64 t108] 33 (0, 0)) (by (with_reducible repeat (first | refine blk_drewN ?_ _ | refine blk_drew ?_ | refine blk_alloc ?_ _)); refine blk_put (cs := #[.int .u64 t105, .int .u64 t106, .int .u64 t107, .int .u64 0]) ?_ 3 _ rfl; (with_reducible repeat (first | refine blk_drewN ?_ _ | refine blk_drew ?_ | refine blk_alloc ?_ _)); refine blk_put (cs := #[.int .u64 t105, .int .u64 t106, .int .u64 0, .int .u64 0]) ?_ 2 _ rfl; (with_reducible repeat (first | refine blk_drewN ?_ _ | refine blk_drew ?_ | refine blk_alloc ?_ _)); refine blk_put (cs := #[.int .u64 t105, .int .u64 0, .int .u64 0, .int .u64 0]) ?_ 1 _ rfl; (with_reducible repeat (first | refine blk_drewN ?_ _ | refine blk_drew ?_ | refine blk_alloc ?_ _)); refine blk_put (cs := #[.int .u64 0, .int .u64 0, .int .u64 0, .int .u64 0]) ?_ 0 _ rfl; (with_reducible repeat (first | refine blk_drewN ?_ _ | refine blk_drew ?_ | refine blk_alloc ?_ _)); exact BK110.out) hg (Kd.R_ne HO_7.out BK110.out (by decide))); have n4_ := Aside0.mk (hb); have n5_ := Aside0.mk (ho); clear BK101; clear BK102; clear BK103; clear BK110; clear HB; clear HO_7; have BK101 := n0_; have BK102 := n1_; have BK103 := n2_; have BK110 := n3_; have HB := n4_; have HO114 := n5_; clear n0_ n1_ n2_ n3_ n4_ n5_; clear ho hb hg hat))
       go_roundg k1
       case measure => have := HK1.out; omega
       case rel => exact ⟨(y112), (wrap64 (x8_1 + 1)), (by first | rfl | (simp; done) | (simp [*]; done)), H', ⟨by have := HK1.out; omega⟩, ⟨by (with_reducible repeat (first | apply Kd.R_alloc | apply Kd.R_drewN | apply Kd.R_drew)); exact HO114.out⟩, ⟨by (with_reducible repeat (first | refine blk_drewN ?_ _ | refine blk_drew ?_ | refine blk_alloc ?_ _)); exact BK101.out⟩, ⟨by (with_reducible repeat (first | refine blk_drewN ?_ _ | refine blk_drew ?_ | refine blk_alloc ?_ _)); exact BK102.out⟩, ⟨by (with_reducible repeat (first | refine blk_drewN ?_ _ | refine blk_drew ?_ | refine blk_alloc ?_ _)); exact BK103.out⟩, ⟨F43_⟩⟩
      ·rw [if_neg c11] at H
       exact absurd H (by simp)
     ·replace c10 := Bool.eq_false_iff.mpr c10
      subst c10
      have H1 : (dunnageref14_Fits.l0 k1 x7_1 (wrap64 (x8_1 + 1)) l0_0 l0_1 l0_2 l1_0 a1_1 a1_2 a2_0 a2_1 a2_2 a2_3) = some r := by rw [if_neg (show ¬ (false = true) by decide)] at H; exact H
      clear H
      have H := H1
      clear H1
      have H' := Aside0.mk H
      clear H
      have hnb26 := NB101_102.out
      have hnc26 := NB102_101.out
      have hnb27 := NB101_103.out
      have hnc27 := NB103_101.out
      have hcz28_0 : wr.cell? ⟨gb101, 0, none⟩ = some (.slice A0_0 l0_0.length c0_0) := (blk_cell BK101.out 0).trans rfl
      have hcz28_1 : wr.cell? ⟨gb101, 1, none⟩ = some (.slice A0_1 l0_1.length c0_1) := (blk_cell BK101.out 1).trans rfl
      have hcz28_2 : wr.cell? ⟨gb101, 2, none⟩ = some (.slice A0_2 l0_2.length c0_2) := (blk_cell BK101.out 2).trans rfl
      have hfz28_0 := blk_frozen BK101.out 0
      have hfz28_1 := blk_frozen BK101.out 1
      have hfz28_2 := blk_frozen BK101.out 2
      try go_wp2
      have n0_ := Aside0.mk (Kd.R_drew HO_7.out)
      have n1_ := Aside0.mk (blk_drew BK101.out)
      have n2_ := Aside0.mk (blk_drew BK102.out)
      have n3_ := Aside0.mk (blk_drew BK103.out)
      have n4_ := Aside0.mk (below_drew1 HB.out)
      clear HO_7
      clear BK101
      clear BK102
      clear BK103
      clear HB
      have HO_7 := n0_
      have BK101 := n1_
      have BK102 := n2_
      have BK103 := n3_
      have HB := n4_
      clear n0_ n1_ n2_ n3_ n4_
      have p104 : 0 ≤ (x8_1 : Int) := of_decide_eq_true F42_
      have q104 : x8_1 < (l0_0.length : Int) := of_decide_eq_true F42_
      obtain ⟨ad104, e104, hx104_0, hx104_1, hx104_2, hx104_3, hx104_4, hx104_5, hx104_6, hx104_7, hx104_8, hx104_9⟩ := at_T150 HR0_0.out x8_1 p104 q104
      have hw104_9 := hx104_9
      have hw104_8 := hx104_8
      have hw104_7 := hx104_7
      have hw104_6 := hx104_6
      have hw104_5 := hx104_5
      have hw104_4 := hx104_4
      have hw104_3 := hx104_3
      have hw104_2 := hx104_2
      have hw104_1 := hx104_1
      have hw104_0 := hx104_0
      cases e104
      replace hx104_0 := (HB.out.cell (World.block_lt_of_cell? w _ hx104_0)).trans hx104_0
      replace hx104_1 := (HB.out.cell (World.block_lt_of_cell? w _ hx104_1)).trans hx104_1
      replace hx104_2 := (HB.out.cell (World.block_lt_of_cell? w _ hx104_2)).trans hx104_2
      replace hx104_3 := (HB.out.cell (World.block_lt_of_cell? w _ hx104_3)).trans hx104_3
      replace hx104_4 := (HB.out.cell (World.block_lt_of_cell? w _ hx104_4)).trans hx104_4
      replace hx104_5 := (HB.out.cell (World.block_lt_of_cell? w _ hx104_5)).trans hx104_5
      replace hx104_6 := (HB.out.cell (World.block_lt_of_cell? w _ hx104_6)).trans hx104_6
      replace hx104_7 := (HB.out.cell (World.block_lt_of_cell? w _ hx104_7)).trans hx104_7
      replace hx104_8 := (HB.out.cell (World.block_lt_of_cell? w _ hx104_8)).trans hx104_8
      replace hx104_9 := (HB.out.cell (World.block_lt_of_cell? w _ hx104_9)).trans hx104_9
      replace p104 := eq_true p104
      replace q104 := eq_true q104
      refine start_ (n := 16) (S := fun w' => w'.cell? ⟨gb101, 0, none⟩ = some (.slice (some ad104) l0_0.length c0_0) ∧ w'.cell? ⟨gb101, 1, none⟩ = some (.slice A0_1 l0_1.length c0_1) ∧ w'.cell? ⟨gb101, 2, none⟩ = some (.slice A0_2 l0_2.length c0_2) ∧ w'.cell? ⟨gb102, 0, none⟩ = some (.slice A1_0 l1_0.length c1_0) ∧ w'.cell? ⟨gb102, 1, none⟩ = some (.int .i64 a1_1) ∧ w'.cell? ⟨gb102, 2, none⟩ = some (.int .i64 a1_2) ∧ w'.cell? ⟨gb103, 0, none⟩ = some (.int .u64 a2_0) ∧ w'.cell? ⟨gb103, 1, none⟩ = some (.int .u64 a2_1) ∧ w'.cell? ⟨gb103, 2, none⟩ = some (.int .u64 a2_2) ∧ w'.cell? ⟨gb103, 3, none⟩ = some (.int .u64 a2_3) ∧ w'.cell? (ad104.add ((x8_1).toNat * 10)) = some (.int .i64 ((rd_T150 l0_0 x8_1).f0)) ∧ w'.cell? ⟨(ad104.add ((x8_1).toNat * 10)).block, (ad104.add ((x8_1).toNat * 10)).off + 1, none⟩ = some (.int .i64 ((rd_T150 l0_0 x8_1).f1)) ∧ w'.cell? ⟨(ad104.add ((x8_1).toNat * 10)).block, (ad104.add ((x8_1).toNat * 10)).off + 2, none⟩ = some (.int .u64 ((rd_T150 l0_0 x8_1).f2.f0)) ∧ w'.cell? ⟨(ad104.add ((x8_1).toNat * 10)).block, (ad104.add ((x8_1).toNat * 10)).off + 3, none⟩ = some (.int .u64 ((rd_T150 l0_0 x8_1).f2.f1)) ∧ w'.cell? ⟨(ad104.add ((x8_1).toNat * 10)).block, (ad104.add ((x8_1).toNat * 10)).off + 4, none⟩ = some (.int .u64 ((rd_T150 l0_0 x8_1).f2.f2)) ∧ w'.cell? ⟨(ad104.add ((x8_1).toNat * 10)).block, (ad104.add ((x8_1).toNat * 10)).off + 5, none⟩ = some (.int .u64 ((rd_T150 l0_0 x8_1).f2.f3)) ∧ w'.cell? ⟨(ad104.add ((x8_1).toNat * 10)).block, (ad104.add ((x8_1).toNat * 10)).off + 6, none⟩ = some (.int .u64 ((rd_T150 l0_0 x8_1).f3.f0)) ∧ w'.cell? ⟨(ad104.add ((x8_1).toNat * 10)).block, (ad104.add ((x8_1).toNat * 10)).off + 7, none⟩ = some (.int .u64 ((rd_T150 l0_0 x8_1).f3.f1)) ∧ w'.cell? ⟨(ad104.add ((x8_1).toNat * 10)).block, (ad104.add ((x8_1).toNat * 10)).off + 8, none⟩ = some (.int .u64 ((rd_T150 l0_0 x8_1).f3.f2)) ∧ w'.cell? ⟨(ad104.add ((x8_1).toNat * 10)).block, (ad104.add ((x8_1).toNat * 10)).off + 9, none⟩ = some (.int .u64 ((rd_T150 l0_0 x8_1).f3.f3))) (ds := []) #[false, false, false, false, false, false, false, false, false, false, false, false, false, false, false, false] (by kernel_rfl) rfl rfl ⟨(blk_cell BK101.out 0).trans rfl, (blk_cell BK101.out 1).trans rfl, (blk_cell BK101.out 2).trans rfl, (blk_cell BK102.out 0).trans rfl, (blk_cell BK102.out 1).trans rfl, (blk_cell BK102.out 2).trans rfl, (blk_cell BK103.out 0).trans rfl, (blk_cell BK103.out 1).trans rfl, (blk_cell BK103.out 2).trans rfl, (blk_cell BK103.out 3).trans rfl, ((HB.out.cell (World.block_lt_of_cell? w _ hw104_0)).trans hw104_0), ((HB.out.cell (World.block_lt_of_cell? w _ hw104_1)).trans hw104_1), ((HB.out.cell (World.block_lt_of_cell? w _ hw104_2)).trans hw104_2), ((HB.out.cell (World.block_lt_of_cell? w _ hw104_3)).trans hw104_3), ((HB.out.cell (World.block_lt_of_cell? w _ hw104_4)).trans hw104_4), ((HB.out.cell (World.block_lt_of_cell? w _ hw104_5)).trans hw104_5), ((HB.out.cell (World.block_lt_of_cell? w _ hw104_6)).trans hw104_6), ((HB.out.cell (World.block_lt_of_cell? w _ hw104_7)).trans hw104_7), ((HB.out.cell (World.block_lt_of_cell? w _ hw104_8)).trans hw104_8), ((HB.out.cell (World.block_lt_of_cell? w _ hw104_9)).trans hw104_9)⟩ (fun hHeld => ?_); refine with_tabW dunnageref14_Fits.tab5 dunnageref14_Fits.bits5 (fun HT_ HW_ => ?_)
      generalize wr.drew = w29 at HO_7 BK101 BK102 BK103 HB hx104_0 hx104_1 hx104_2 hx104_3 hx104_4 hx104_5 hx104_6 hx104_7 hx104_8 hx104_9 hHeld ⊢
      refine pure_ (i := 2) (N := some 21) (v := ?_) (a' := ?_) #[false, false, true, false, false, false, false, false, false, false, false, false, false, false, false, false] rfl rfl (any_of HT_.out (by kernel_rfl)) (fun _ _ _ h => h) (Or.inl ⟨by rfl, ?_⟩) ?_ ?_
      rotate_left
      ·intro w'
       go_simp
       with_reducible rfl
      rotate_left
      ·simp only [Act.put, List.setIfInBounds_toArray, List.set_cons_zero, List.set_cons_succ, i64_w, i32_w]
       rfl
      refine pure_ (i := 4) (N := some 23) (v := ?_) (a' := ?_) #[false, false, true, false, true, false, false, false, false, false, false, false, false, false, false, false] rfl rfl (any_of HT_.out (by kernel_rfl)) (fun _ _ _ h => h) (Or.inl ⟨by rfl, ?_⟩) ?_ ?_
      rotate_left
      ·intro w'
       go_simp
       with_reducible rfl
      rotate_left
      ·simp only [Act.put, List.setIfInBounds_toArray, List.set_cons_zero, List.set_cons_succ, i64_w, i32_w]
       rfl
      refine take_ (i := 0) (N := some 19) (v := ?_) (a' := ?_) #[true, false, true, false, true, false, false, false, false, false, false, false, false, false, false, false] rfl rfl (take_ofW HT_.out HW_.out (by kernel_rfl)) (fun _ _ _ h => h) (Or.inl ⟨by rfl, ?_⟩) hHeld ?_ ?_
      rotate_left
      ·rintro w' ⟨s0, s1, s2, s3, s4, s5, s6, s7, s8, s9, s10, s11, s12, s13, s14, s15, s16, s17, s18, s19⟩
       go_simp
       with_reducible rfl
      rotate_left
      ·simp only [Act.put, List.setIfInBounds_toArray, List.set_cons_zero, List.set_cons_succ, i64_w, i32_w]
       rfl
      refine take_ (i := 1) (N := some 20) (v := ?_) (a' := ?_) #[true, true, true, false, true, false, false, false, false, false, false, false, false, false, false, false] rfl rfl (take_ofW HT_.out HW_.out (by kernel_rfl)) (fun _ _ _ h => h) (Or.inl ⟨by rfl, ?_⟩) hHeld ?_ ?_
      rotate_left
      ·rintro w' ⟨s0, s1, s2, s3, s4, s5, s6, s7, s8, s9, s10, s11, s12, s13, s14, s15, s16, s17, s18, s19⟩
       go_simp
       with_reducible rfl
      rotate_left
      ·simp only [Act.put, List.setIfInBounds_toArray, List.set_cons_zero, List.set_cons_succ, i64_w, i32_w]
       rfl
      refine take_ (i := 3) (N := some 22) (v := ?_) (a' := ?_) #[true, true, true, true, true, false, false, false, false, false, false, false, false, false, false, false] rfl rfl (take_ofW HT_.out HW_.out (by kernel_rfl)) (fun _ _ _ h => h) (Or.inl ⟨by rfl, ?_⟩) hHeld ?_ ?_
      rotate_left
      ·rintro w' ⟨s0, s1, s2, s3, s4, s5, s6, s7, s8, s9, s10, s11, s12, s13, s14, s15, s16, s17, s18, s19⟩
       go_simp
       with_reducible rfl
      rotate_left
      ·simp only [Act.put, List.setIfInBounds_toArray, List.set_cons_zero, List.set_cons_succ, i64_w, i32_w]
       rfl
      refine pure_ (i := 5) (N := some 24) (v := ?_) (a' := ?_) #[true, true, true, true, true, true, false, false, false, false, false, false, false, false, false, false] rfl rfl (any_of HT_.out (by kernel_rfl)) (fun _ _ _ h => h) (Or.inl ⟨by rfl, ?_⟩) ?_ ?_
      rotate_left
      ·intro w'
       go_simp
       with_reducible rfl
      rotate_left
      ·simp only [Act.put, List.setIfInBounds_toArray, List.set_cons_zero, List.set_cons_succ, i64_w, i32_w]
       rfl
      refine pure_ (i := 6) (N := some 25) (v := ?_) (a' := ?_) #[true, true, true, true, true, true, true, false, false, false, false, false, false, false, false, false] rfl rfl (any_of HT_.out (by kernel_rfl)) (fun _ _ _ h => h) (Or.inl ⟨by rfl, ?_⟩) ?_ ?_
      rotate_left
      ·intro w'
       go_simp
       with_reducible rfl
      rotate_left
      ·simp only [Act.put, List.setIfInBounds_toArray, List.set_cons_zero, List.set_cons_succ, i64_w, i32_w]
       rfl
      refine take_ (i := 7) (N := some 26) (v := ?_) (a' := ?_) #[true, true, true, true, true, true, true, true, false, false, false, false, false, false, false, false] rfl rfl (take_ofW HT_.out HW_.out (by kernel_rfl)) (fun _ _ _ h => h) (Or.inl ⟨by rfl, ?_⟩) hHeld ?_ ?_
      rotate_left
      ·rintro w' ⟨s0, s1, s2, s3, s4, s5, s6, s7, s8, s9, s10, s11, s12, s13, s14, s15, s16, s17, s18, s19⟩
       go_simp
       with_reducible rfl
      rotate_left
      ·simp only [Act.put, List.setIfInBounds_toArray, List.set_cons_zero, List.set_cons_succ, i64_w, i32_w]
       rfl
      refine take_ (i := 8) (N := some 27) (v := ?_) (a' := ?_) #[true, true, true, true, true, true, true, true, true, false, false, false, false, false, false, false] rfl rfl (take_ofW HT_.out HW_.out (by kernel_rfl)) (fun _ _ _ h => h) (Or.inl ⟨by rfl, ?_⟩) hHeld ?_ ?_
      rotate_left
      ·rintro w' ⟨s0, s1, s2, s3, s4, s5, s6, s7, s8, s9, s10, s11, s12, s13, s14, s15, s16, s17, s18, s19⟩
       go_simp
       with_reducible rfl
      rotate_left
      ·simp only [Act.put, List.setIfInBounds_toArray, List.set_cons_zero, List.set_cons_succ, i64_w, i32_w]
       rfl
      refine join_ (σ := Nat) 2 #[true, true, true, true, true, true, true, true, true, true, true, true, true, true, false, false] (fun s_ => [(28, .tuple #[.agg #[.int .u64 t105, .int .u64 t106, .int .u64 t107, .int .u64 t108], .bool false]), (9, .pointer (some ⟨s_, 0, none⟩)), (18, .tuple #[.agg #[.int .u64 t105, .int .u64 t106, .int .u64 t107, .int .u64 t108], .bool false]), (29, .agg #[.int .u64 t105, .int .u64 t106, .int .u64 t107, .int .u64 t108]), (30, .bool false)]) (fun s_ w' => (w'.cell? ⟨gb101, 0, none⟩ = some (.slice (some ad104) l0_0.length c0_0) ∧ w'.cell? ⟨gb101, 1, none⟩ = some (.slice A0_1 l0_1.length c0_1) ∧ w'.cell? ⟨gb101, 2, none⟩ = some (.slice A0_2 l0_2.length c0_2) ∧ w'.cell? ⟨gb102, 0, none⟩ = some (.slice A1_0 l1_0.length c1_0) ∧ w'.cell? ⟨gb102, 1, none⟩ = some (.int .i64 a1_1) ∧ w'.cell? ⟨gb102, 2, none⟩ = some (.int .i64 a1_2) ∧ w'.cell? ⟨gb103, 0, none⟩ = some (.int .u64 a2_0) ∧ w'.cell? ⟨gb103, 1, none⟩ = some (.int .u64 a2_1) ∧ w'.cell? ⟨gb103, 2, none⟩ = some (.int .u64 a2_2) ∧ w'.cell? ⟨gb103, 3, none⟩ = some (.int .u64 a2_3) ∧ w'.cell? (ad104.add ((x8_1).toNat * 10)) = some (.int .i64 ((rd_T150 l0_0 x8_1).f0)) ∧ w'.cell? ⟨(ad104.add ((x8_1).toNat * 10)).block, (ad104.add ((x8_1).toNat * 10)).off + 1, none⟩ = some (.int .i64 ((rd_T150 l0_0 x8_1).f1)) ∧ w'.cell? ⟨(ad104.add ((x8_1).toNat * 10)).block, (ad104.add ((x8_1).toNat * 10)).off + 2, none⟩ = some (.int .u64 ((rd_T150 l0_0 x8_1).f2.f0)) ∧ w'.cell? ⟨(ad104.add ((x8_1).toNat * 10)).block, (ad104.add ((x8_1).toNat * 10)).off + 3, none⟩ = some (.int .u64 ((rd_T150 l0_0 x8_1).f2.f1)) ∧ w'.cell? ⟨(ad104.add ((x8_1).toNat * 10)).block, (ad104.add ((x8_1).toNat * 10)).off + 4, none⟩ = some (.int .u64 ((rd_T150 l0_0 x8_1).f2.f2)) ∧ w'.cell? ⟨(ad104.add ((x8_1).toNat * 10)).block, (ad104.add ((x8_1).toNat * 10)).off + 5, none⟩ = some (.int .u64 ((rd_T150 l0_0 x8_1).f2.f3)) ∧ w'.cell? ⟨(ad104.add ((x8_1).toNat * 10)).block, (ad104.add ((x8_1).toNat * 10)).off + 6, none⟩ = some (.int .u64 ((rd_T150 l0_0 x8_1).f3.f0)) ∧ w'.cell? ⟨(ad104.add ((x8_1).toNat * 10)).block, (ad104.add ((x8_1).toNat * 10)).off + 7, none⟩ = some (.int .u64 ((rd_T150 l0_0 x8_1).f3.f1)) ∧ w'.cell? ⟨(ad104.add ((x8_1).toNat * 10)).block, (ad104.add ((x8_1).toNat * 10)).off + 8, none⟩ = some (.int .u64 ((rd_T150 l0_0 x8_1).f3.f2)) ∧ w'.cell? ⟨(ad104.add ((x8_1).toNat * 10)).block, (ad104.add ((x8_1).toNat * 10)).off + 9, none⟩ = some (.int .u64 ((rd_T150 l0_0 x8_1).f3.f3))) ∧ (Kd.R (Kd.int .i64) 3 w' w.heap.size (fun _ => True) u7 x7_1) ∧ (w'.heap[gb101]? = some (.cells #[.slice (some ad104) l0_0.length c0_0, .slice A0_1 l0_1.length c0_1, .slice A0_2 l0_2.length c0_2] 96 (0, 0))) ∧ (w'.heap[gb102]? = some (.cells #[.slice A1_0 l1_0.length c1_0, .int .i64 a1_1, .int .i64 a1_2] 26 (0, 0))) ∧ (w'.heap[gb103]? = some (.cells #[.int .u64 a2_0, .int .u64 a2_1, .int .u64 a2_2, .int .u64 a2_3] 33 (0, 0))) ∧ (w'.heap[s_]? = some (.cells #[.int .u64 0, .int .u64 0, .int .u64 0, .int .u64 0] 33 (0, 0))) ∧ (w.heap.size ≤ s_) ∧ (w.heap.size ≤ s_) ∧ (gb101 ≠ s_) ∧ (s_ ≠ gb101) ∧ (gb102 ≠ s_) ∧ (s_ ≠ gb102) ∧ (gb103 ≠ s_) ∧ (s_ ≠ gb103) ∧ (Below w.heap.size w w')) ?_ ?_
      rotate_left
      ·intro hCont
       refine two_ (i := 9) (j := 13) (Ni := some 28) (Nj := some 9) #[true, true, true, true, true, true, true, true, true, true, false, false, false, false, false, false] #[true, true, true, true, true, true, true, true, true, false, false, false, false, true, false, false] rfl rfl rfl rfl (two_of HT_.out (by kernel_rfl)) (by decide) (by decide) (fun K hK => ?_) (fun K hK => ?_)
       ·skip
        refine goes_ Try.func115 (by kernel_rfl) rfl #[.agg #[.slice (some ad104) l0_0.length c0_0, .slice A0_1 l0_1.length c0_1, .slice A0_2 l0_2.length c0_2], .agg #[.slice A1_0 l1_0.length c1_0, .int .i64 a1_1, .int .i64 a1_2], .int .i64 ((rd_T150 l0_0 x8_1).f0), .agg #[.int .u64 a2_0, .int .u64 a2_1, .int .u64 a2_2, .int .u64 a2_3]] (by rfl) rfl rfl F26_ ?_
        with_reducible refine (dunnageref14_Left.calls k1 _ _ l0_0 _ _ l0_1 _ _ l0_2 _ _ l1_0 a1_1 a1_2 ((rd_T150 l0_0 x8_1).f0) a2_0 a2_1 a2_2 a2_3 t105 t106 t107 t108 false _ ?side1 ?side2 ?side3 ?side4 ?side5 ?side6 ?side7 ?side8 A9.out).mono ?_
        (case side1 => exact F22_)
        (case side2 => exact HC0_0.out)
        (case side3 => exact F23_)
        (case side4 => exact HC0_1.out)
        (case side5 => exact F24_)
        (case side6 => exact HC0_2.out)
        (case side7 => exact F25_)
        (case side8 => exact HC1_0.out)
        rintro e w30 ⟨rfl, hb⟩
        refine ⟨_, rfl, ?_⟩
        have n0_ := Aside0.mk (Kd.R_below F16_ hb)
        have n1_ := Aside0.mk (blk_below (g := gb101) (o := .cells #[.slice (some ad104) l0_0.length c0_0, .slice A0_1 l0_1.length c0_1, .slice A0_2 l0_2.length c0_2] 96 (0, 0)) F11_ hb)
        have n2_ := Aside0.mk (blk_below (g := gb102) (o := .cells #[.slice A1_0 l1_0.length c1_0, .int .i64 a1_1, .int .i64 a1_2] 26 (0, 0)) F13_ hb)
        have n3_ := Aside0.mk (blk_below (g := gb103) (o := .cells #[.int .u64 a2_0, .int .u64 a2_1, .int .u64 a2_2, .int .u64 a2_3] 33 (0, 0)) F14_ hb)
        have n4_ := Aside0.mk (below_step F12_ hb)
        clear HO_7
        clear BK101
        clear BK102
        clear BK103
        clear HB
        have HO_7 := n0_
        have BK101 := n1_
        have BK102 := n2_
        have BK103 := n3_
        have HB := n4_
        clear n0_ n1_ n2_ n3_ n4_
        (try clear hb)
        (try clear hb2)
        (try clear hk)
        (try clear hi)
        refine hK.out _ _ ⟨(blk_cell BK101.out 0).trans rfl, (blk_cell BK101.out 1).trans rfl, (blk_cell BK101.out 2).trans rfl, (blk_cell BK102.out 0).trans rfl, (blk_cell BK102.out 1).trans rfl, (blk_cell BK102.out 2).trans rfl, (blk_cell BK103.out 0).trans rfl, (blk_cell BK103.out 1).trans rfl, (blk_cell BK103.out 2).trans rfl, (blk_cell BK103.out 3).trans rfl, ((HB.out.cell (World.block_lt_of_cell? w _ hw104_0)).trans hw104_0), ((HB.out.cell (World.block_lt_of_cell? w _ hw104_1)).trans hw104_1), ((HB.out.cell (World.block_lt_of_cell? w _ hw104_2)).trans hw104_2), ((HB.out.cell (World.block_lt_of_cell? w _ hw104_3)).trans hw104_3), ((HB.out.cell (World.block_lt_of_cell? w _ hw104_4)).trans hw104_4), ((HB.out.cell (World.block_lt_of_cell? w _ hw104_5)).trans hw104_5), ((HB.out.cell (World.block_lt_of_cell? w _ hw104_6)).trans hw104_6), ((HB.out.cell (World.block_lt_of_cell? w _ hw104_7)).trans hw104_7), ((HB.out.cell (World.block_lt_of_cell? w _ hw104_8)).trans hw104_8), ((HB.out.cell (World.block_lt_of_cell? w _ hw104_9)).trans hw104_9)⟩ (fun hHeld => ?_)
        clear hK K
        refine norm_ (a' := ?_) ?_ ?_
        rotate_left
        ·show Act.put _ (some 28) _ = _
         simp only [Act.put, List.setIfInBounds_toArray, List.set_cons_zero, List.set_cons_succ, i64_w, i32_w]
         rfl
        refine pure_ (i := 10) (N := some 18) (v := ?_) (a' := ?_) #[true, true, true, true, true, true, true, true, true, true, true, false, false, false, false, false] rfl rfl (any_of HT_.out (by kernel_rfl)) (fun _ _ _ h => h) (Or.inl ⟨by rfl, ?_⟩) ?_ ?_
        rotate_left
        ·intro w'
         go_simp
         with_reducible rfl
        rotate_left
        ·simp only [Act.put, List.setIfInBounds_toArray, List.set_cons_zero, List.set_cons_succ, i64_w, i32_w]
         rfl
        refine pure_ (i := 11) (N := some 29) (v := ?_) (a' := ?_) #[true, true, true, true, true, true, true, true, true, true, true, true, false, false, false, false] rfl rfl (any_of HT_.out (by kernel_rfl)) (fun _ _ _ h => h) (Or.inl ⟨by rfl, ?_⟩) ?_ ?_
        rotate_left
        ·intro w'
         go_simp
         with_reducible rfl
        rotate_left
        ·simp only [Act.put, List.setIfInBounds_toArray, List.set_cons_zero, List.set_cons_succ, i64_w, i32_w]
         rfl
        refine pure_ (i := 12) (N := some 30) (v := ?_) (a' := ?_) #[true, true, true, true, true, true, true, true, true, true, true, true, true, false, false, false] rfl rfl (any_of HT_.out (by kernel_rfl)) (fun _ _ _ h => h) (Or.inl ⟨by rfl, ?_⟩) ?_ ?_
        rotate_left
        ·intro w'
         go_simp
         with_reducible rfl
        rotate_left
        ·simp only [Act.put, List.setIfInBounds_toArray, List.set_cons_zero, List.set_cons_succ, i64_w, i32_w]
         rfl
        refine one_ (i := 13) (N := some 9) #[true, true, true, true, true, true, true, true, true, true, true, true, true, true, false, false] rfl rfl (one_of HT_.out (by kernel_rfl)) (by decide) (fun K hK => ?_)
        refine box_step ?hg (N := 9) ?hd (cs := #[.int .u64 0, .int .u64 0, .int .u64 0, .int .u64 0]) (t := 33) ?hr ?_; (case hd => rfl); (case hg => rfl); (case hr => first | (go_simp; done) | (go_simp; rfl))
        intro gb110 hg w31 hbox hb
        have n0_ := Aside0.mk (Kd.R_below F16_ hb)
        have n1_ := Aside0.mk (blk_below (g := gb101) (o := .cells #[.slice (some ad104) l0_0.length c0_0, .slice A0_1 l0_1.length c0_1, .slice A0_2 l0_2.length c0_2] 96 (0, 0)) F11_ hb)
        have n2_ := Aside0.mk (blk_below (g := gb102) (o := .cells #[.slice A1_0 l1_0.length c1_0, .int .i64 a1_1, .int .i64 a1_2] 26 (0, 0)) F13_ hb)
        have n3_ := Aside0.mk (blk_below (g := gb103) (o := .cells #[.int .u64 a2_0, .int .u64 a2_1, .int .u64 a2_2, .int .u64 a2_3] 33 (0, 0)) F14_ hb)
        have n4_ := Aside0.mk (below_step F12_ hb)
        have n5_ := Aside0.mk (hbox)
        have n6_ := Aside0.mk ((by rw [hg]; exact (below_size F12_) : w.heap.size ≤ gb110))
        have n7_ := Aside0.mk ((by rw [hg]; exact (below_size F12_) : w.heap.size ≤ gb110))
        have n8_ := Aside0.mk ((by rw [hg]; exact Nat.ne_of_lt (blk_lt (g := gb101) (o := .cells #[.slice (some ad104) l0_0.length c0_0, .slice A0_1 l0_1.length c0_1, .slice A0_2 l0_2.length c0_2] 96 (0, 0)) F11_) : gb101 ≠ gb110))
        have n9_ := Aside0.mk ((by rw [hg]; exact Nat.ne_of_gt (blk_lt (g := gb101) (o := .cells #[.slice (some ad104) l0_0.length c0_0, .slice A0_1 l0_1.length c0_1, .slice A0_2 l0_2.length c0_2] 96 (0, 0)) F11_) : gb110 ≠ gb101))
        have n10_ := Aside0.mk ((by rw [hg]; exact Nat.ne_of_lt (blk_lt (g := gb102) (o := .cells #[.slice A1_0 l1_0.length c1_0, .int .i64 a1_1, .int .i64 a1_2] 26 (0, 0)) F13_) : gb102 ≠ gb110))
        have n11_ := Aside0.mk ((by rw [hg]; exact Nat.ne_of_gt (blk_lt (g := gb102) (o := .cells #[.slice A1_0 l1_0.length c1_0, .int .i64 a1_1, .int .i64 a1_2] 26 (0, 0)) F13_) : gb110 ≠ gb102))
        have n12_ := Aside0.mk ((by rw [hg]; exact Nat.ne_of_lt (blk_lt (g := gb103) (o := .cells #[.int .u64 a2_0, .int .u64 a2_1, .int .u64 a2_2, .int .u64 a2_3] 33 (0, 0)) F14_) : gb103 ≠ gb110))
        have n13_ := Aside0.mk ((by rw [hg]; exact Nat.ne_of_gt (blk_lt (g := gb103) (o := .cells #[.int .u64 a2_0, .int .u64 a2_1, .int .u64 a2_2, .int .u64 a2_3] 33 (0, 0)) F14_) : gb110 ≠ gb103))
        clear HO_7
        clear BK101
        clear BK102
        clear BK103
        clear HB
        have HO_7 := n0_
        have BK101 := n1_
        have BK102 := n2_
        have BK103 := n3_
        have HB := n4_
        have BK110 := n5_
        have GW110 := n6_
        have GE110 := n7_
        have NB101_110 := n8_
        have NB110_101 := n9_
        have NB102_110 := n10_
        have NB110_102 := n11_
        have NB103_110 := n12_
        have NB110_103 := n13_
        clear n0_ n1_ n2_ n3_ n4_ n5_ n6_ n7_ n8_ n9_ n10_ n11_ n12_ n13_
        clear hb hbox hg
        refine hK.out _ _ ⟨(blk_cell BK101.out 0).trans rfl, (blk_cell BK101.out 1).trans rfl, (blk_cell BK101.out 2).trans rfl, (blk_cell BK102.out 0).trans rfl, (blk_cell BK102.out 1).trans rfl, (blk_cell BK102.out 2).trans rfl, (blk_cell BK103.out 0).trans rfl, (blk_cell BK103.out 1).trans rfl, (blk_cell BK103.out 2).trans rfl, (blk_cell BK103.out 3).trans rfl, ((HB.out.cell (World.block_lt_of_cell? w _ hw104_0)).trans hw104_0), ((HB.out.cell (World.block_lt_of_cell? w _ hw104_1)).trans hw104_1), ((HB.out.cell (World.block_lt_of_cell? w _ hw104_2)).trans hw104_2), ((HB.out.cell (World.block_lt_of_cell? w _ hw104_3)).trans hw104_3), ((HB.out.cell (World.block_lt_of_cell? w _ hw104_4)).trans hw104_4), ((HB.out.cell (World.block_lt_of_cell? w _ hw104_5)).trans hw104_5), ((HB.out.cell (World.block_lt_of_cell? w _ hw104_6)).trans hw104_6), ((HB.out.cell (World.block_lt_of_cell? w _ hw104_7)).trans hw104_7), ((HB.out.cell (World.block_lt_of_cell? w _ hw104_8)).trans hw104_8), ((HB.out.cell (World.block_lt_of_cell? w _ hw104_9)).trans hw104_9)⟩ (fun hHeld => ?_)
        clear hK K
        refine norm_ (a' := ?_) ?_ ?_
        rotate_left
        ·show Act.put _ (some 9) _ = _
         simp only [Act.put, List.setIfInBounds_toArray, List.set_cons_zero, List.set_cons_succ, i64_w, i32_w]
         rfl
        exact norm_ F29_ (hCont (gb110) _ ⟨hHeld, F16_, F11_, F13_, F14_, F21_, GW110.out, GE110.out, NB101_110.out, NB110_101.out, NB102_110.out, NB110_102.out, NB103_110.out, NB110_103.out, F15_⟩)
       ·skip
        refine box_step ?hg (N := 9) ?hd (cs := #[.int .u64 0, .int .u64 0, .int .u64 0, .int .u64 0]) (t := 33) ?hr ?_; (case hd => rfl); (case hg => rfl); (case hr => first | (go_simp; done) | (go_simp; rfl))
        intro gb110 hg w30 hbox hb
        have n0_ := Aside0.mk (Kd.R_below F16_ hb)
        have n1_ := Aside0.mk (blk_below (g := gb101) (o := .cells #[.slice (some ad104) l0_0.length c0_0, .slice A0_1 l0_1.length c0_1, .slice A0_2 l0_2.length c0_2] 96 (0, 0)) F11_ hb)
        have n2_ := Aside0.mk (blk_below (g := gb102) (o := .cells #[.slice A1_0 l1_0.length c1_0, .int .i64 a1_1, .int .i64 a1_2] 26 (0, 0)) F13_ hb)
        have n3_ := Aside0.mk (blk_below (g := gb103) (o := .cells #[.int .u64 a2_0, .int .u64 a2_1, .int .u64 a2_2, .int .u64 a2_3] 33 (0, 0)) F14_ hb)
        have n4_ := Aside0.mk (below_step F12_ hb)
        have n5_ := Aside0.mk (hbox)
        have n6_ := Aside0.mk ((by rw [hg]; exact (below_size F12_) : w.heap.size ≤ gb110))
        have n7_ := Aside0.mk ((by rw [hg]; exact (below_size F12_) : w.heap.size ≤ gb110))
        have n8_ := Aside0.mk ((by rw [hg]; exact Nat.ne_of_lt (blk_lt (g := gb101) (o := .cells #[.slice (some ad104) l0_0.length c0_0, .slice A0_1 l0_1.length c0_1, .slice A0_2 l0_2.length c0_2] 96 (0, 0)) F11_) : gb101 ≠ gb110))
        have n9_ := Aside0.mk ((by rw [hg]; exact Nat.ne_of_gt (blk_lt (g := gb101) (o := .cells #[.slice (some ad104) l0_0.length c0_0, .slice A0_1 l0_1.length c0_1, .slice A0_2 l0_2.length c0_2] 96 (0, 0)) F11_) : gb110 ≠ gb101))
        have n10_ := Aside0.mk ((by rw [hg]; exact Nat.ne_of_lt (blk_lt (g := gb102) (o := .cells #[.slice A1_0 l1_0.length c1_0, .int .i64 a1_1, .int .i64 a1_2] 26 (0, 0)) F13_) : gb102 ≠ gb110))
        have n11_ := Aside0.mk ((by rw [hg]; exact Nat.ne_of_gt (blk_lt (g := gb102) (o := .cells #[.slice A1_0 l1_0.length c1_0, .int .i64 a1_1, .int .i64 a1_2] 26 (0, 0)) F13_) : gb110 ≠ gb102))
        have n12_ := Aside0.mk ((by rw [hg]; exact Nat.ne_of_lt (blk_lt (g := gb103) (o := .cells #[.int .u64 a2_0, .int .u64 a2_1, .int .u64 a2_2, .int .u64 a2_3] 33 (0, 0)) F14_) : gb103 ≠ gb110))
        have n13_ := Aside0.mk ((by rw [hg]; exact Nat.ne_of_gt (blk_lt (g := gb103) (o := .cells #[.int .u64 a2_0, .int .u64 a2_1, .int .u64 a2_2, .int .u64 a2_3] 33 (0, 0)) F14_) : gb110 ≠ gb103))
        clear HO_7
        clear BK101
        clear BK102
        clear BK103
        clear HB
        have HO_7 := n0_
        have BK101 := n1_
        have BK102 := n2_
        have BK103 := n3_
        have HB := n4_
        have BK110 := n5_
        have GW110 := n6_
        have GE110 := n7_
        have NB101_110 := n8_
        have NB110_101 := n9_
        have NB102_110 := n10_
        have NB110_102 := n11_
        have NB103_110 := n12_
        have NB110_103 := n13_
        clear n0_ n1_ n2_ n3_ n4_ n5_ n6_ n7_ n8_ n9_ n10_ n11_ n12_ n13_
        clear hb hbox hg
        refine hK.out _ _ ⟨(blk_cell BK101.out 0).trans rfl, (blk_cell BK101.out 1).trans rfl, (blk_cell BK101.out 2).trans rfl, (blk_cell BK102.out 0).trans rfl, (blk_cell BK102.out 1).trans rfl, (blk_cell BK102.out 2).trans rfl, (blk_cell BK103.out 0).trans rfl, (blk_cell BK103.out 1).trans rfl, (blk_cell BK103.out 2).trans rfl, (blk_cell BK103.out 3).trans rfl, ((HB.out.cell (World.block_lt_of_cell? w _ hw104_0)).trans hw104_0), ((HB.out.cell (World.block_lt_of_cell? w _ hw104_1)).trans hw104_1), ((HB.out.cell (World.block_lt_of_cell? w _ hw104_2)).trans hw104_2), ((HB.out.cell (World.block_lt_of_cell? w _ hw104_3)).trans hw104_3), ((HB.out.cell (World.block_lt_of_cell? w _ hw104_4)).trans hw104_4), ((HB.out.cell (World.block_lt_of_cell? w _ hw104_5)).trans hw104_5), ((HB.out.cell (World.block_lt_of_cell? w _ hw104_6)).trans hw104_6), ((HB.out.cell (World.block_lt_of_cell? w _ hw104_7)).trans hw104_7), ((HB.out.cell (World.block_lt_of_cell? w _ hw104_8)).trans hw104_8), ((HB.out.cell (World.block_lt_of_cell? w _ hw104_9)).trans hw104_9)⟩ (fun hHeld => ?_)
        clear hK K
        refine norm_ (a' := ?_) ?_ ?_
        rotate_left
        ·show Act.put _ (some 9) _ = _
         simp only [Act.put, List.setIfInBounds_toArray, List.set_cons_zero, List.set_cons_succ, i64_w, i32_w]
         rfl
        refine one_ (i := 9) (N := some 28) #[true, true, true, true, true, true, true, true, true, true, false, false, false, true, false, false] rfl rfl (one_of HT_.out (by kernel_rfl)) (by decide) (fun K hK => ?_)
        refine goes_ Try.func115 (by kernel_rfl) rfl #[.agg #[.slice (some ad104) l0_0.length c0_0, .slice A0_1 l0_1.length c0_1, .slice A0_2 l0_2.length c0_2], .agg #[.slice A1_0 l1_0.length c1_0, .int .i64 a1_1, .int .i64 a1_2], .int .i64 ((rd_T150 l0_0 x8_1).f0), .agg #[.int .u64 a2_0, .int .u64 a2_1, .int .u64 a2_2, .int .u64 a2_3]] (by rfl) rfl rfl F26_ ?_
        with_reducible refine (dunnageref14_Left.calls k1 _ _ l0_0 _ _ l0_1 _ _ l0_2 _ _ l1_0 a1_1 a1_2 ((rd_T150 l0_0 x8_1).f0) a2_0 a2_1 a2_2 a2_3 t105 t106 t107 t108 false _ ?side1 ?side2 ?side3 ?side4 ?side5 ?side6 ?side7 ?side8 A9.out).mono ?_
        (case side1 => exact F22_)
        (case side2 => exact HC0_0.out)
        (case side3 => exact F23_)
        (case side4 => exact HC0_1.out)
        (case side5 => exact F24_)
        (case side6 => exact HC0_2.out)
        (case side7 => exact F25_)
        (case side8 => exact HC1_0.out)
        rintro e w31 ⟨rfl, hb⟩
        refine ⟨_, rfl, ?_⟩
        have n0_ := Aside0.mk (Kd.R_below F16_ hb)
        have n1_ := Aside0.mk (blk_below (g := gb101) (o := .cells #[.slice (some ad104) l0_0.length c0_0, .slice A0_1 l0_1.length c0_1, .slice A0_2 l0_2.length c0_2] 96 (0, 0)) F11_ hb)
        have n2_ := Aside0.mk (blk_below (g := gb102) (o := .cells #[.slice A1_0 l1_0.length c1_0, .int .i64 a1_1, .int .i64 a1_2] 26 (0, 0)) F13_ hb)
        have n3_ := Aside0.mk (blk_below (g := gb103) (o := .cells #[.int .u64 a2_0, .int .u64 a2_1, .int .u64 a2_2, .int .u64 a2_3] 33 (0, 0)) F14_ hb)
        have n4_ := Aside0.mk (blk_below (g := gb110) (o := .cells #[.int .u64 0, .int .u64 0, .int .u64 0, .int .u64 0] 33 (0, 0)) F21_ hb)
        have n5_ := Aside0.mk (below_step F15_ hb)
        clear HO_7
        clear BK101
        clear BK102
        clear BK103
        clear BK110
        clear HB
        have HO_7 := n0_
        have BK101 := n1_
        have BK102 := n2_
        have BK103 := n3_
        have BK110 := n4_
        have HB := n5_
        clear n0_ n1_ n2_ n3_ n4_ n5_
        (try clear hb)
        (try clear hb2)
        (try clear hk)
        (try clear hi)
        refine hK.out _ _ ⟨(blk_cell BK101.out 0).trans rfl, (blk_cell BK101.out 1).trans rfl, (blk_cell BK101.out 2).trans rfl, (blk_cell BK102.out 0).trans rfl, (blk_cell BK102.out 1).trans rfl, (blk_cell BK102.out 2).trans rfl, (blk_cell BK103.out 0).trans rfl, (blk_cell BK103.out 1).trans rfl, (blk_cell BK103.out 2).trans rfl, (blk_cell BK103.out 3).trans rfl, ((HB.out.cell (World.block_lt_of_cell? w _ hw104_0)).trans hw104_0), ((HB.out.cell (World.block_lt_of_cell? w _ hw104_1)).trans hw104_1), ((HB.out.cell (World.block_lt_of_cell? w _ hw104_2)).trans hw104_2), ((HB.out.cell (World.block_lt_of_cell? w _ hw104_3)).trans hw104_3), ((HB.out.cell (World.block_lt_of_cell? w _ hw104_4)).trans hw104_4), ((HB.out.cell (World.block_lt_of_cell? w _ hw104_5)).trans hw104_5), ((HB.out.cell (World.block_lt_of_cell? w _ hw104_6)).trans hw104_6), ((HB.out.cell (World.block_lt_of_cell? w _ hw104_7)).trans hw104_7), ((HB.out.cell (World.block_lt_of_cell? w _ hw104_8)).trans hw104_8), ((HB.out.cell (World.block_lt_of_cell? w _ hw104_9)).trans hw104_9)⟩ (fun hHeld => ?_)
        clear hK K
        refine norm_ (a' := ?_) ?_ ?_
        rotate_left
        ·show Act.put _ (some 28) _ = _
         simp only [Act.put, List.setIfInBounds_toArray, List.set_cons_zero, List.set_cons_succ, i64_w, i32_w]
         rfl
        refine pure_ (i := 10) (N := some 18) (v := ?_) (a' := ?_) #[true, true, true, true, true, true, true, true, true, true, true, false, false, true, false, false] rfl rfl (any_of HT_.out (by kernel_rfl)) (fun _ _ _ h => h) (Or.inl ⟨by rfl, ?_⟩) ?_ ?_
        rotate_left
        ·intro w'
         go_simp
         with_reducible rfl
        rotate_left
        ·simp only [Act.put, List.setIfInBounds_toArray, List.set_cons_zero, List.set_cons_succ, i64_w, i32_w]
         rfl
        refine pure_ (i := 11) (N := some 29) (v := ?_) (a' := ?_) #[true, true, true, true, true, true, true, true, true, true, true, true, false, true, false, false] rfl rfl (any_of HT_.out (by kernel_rfl)) (fun _ _ _ h => h) (Or.inl ⟨by rfl, ?_⟩) ?_ ?_
        rotate_left
        ·intro w'
         go_simp
         with_reducible rfl
        rotate_left
        ·simp only [Act.put, List.setIfInBounds_toArray, List.set_cons_zero, List.set_cons_succ, i64_w, i32_w]
         rfl
        refine pure_ (i := 12) (N := some 30) (v := ?_) (a' := ?_) #[true, true, true, true, true, true, true, true, true, true, true, true, true, true, false, false] rfl rfl (any_of HT_.out (by kernel_rfl)) (fun _ _ _ h => h) (Or.inl ⟨by rfl, ?_⟩) ?_ ?_
        rotate_left
        ·intro w'
         go_simp
         with_reducible rfl
        rotate_left
        ·simp only [Act.put, List.setIfInBounds_toArray, List.set_cons_zero, List.set_cons_succ, i64_w, i32_w]
         rfl
        exact norm_ F29_ (hCont (gb110) _ ⟨hHeld, F16_, F11_, F13_, F14_, F21_, GW110.out, GE110.out, NB101_110.out, NB110_101.out, NB102_110.out, NB110_102.out, NB103_110.out, NB110_103.out, F15_⟩)
      rintro gb110 w32 ⟨hS_, h0_, h1_, h2_, h3_, h4_, h5_, h6_, h7_, h8_, h9_, h10_, h11_, h12_, h13_⟩
      have n0_ : Aside0 (Kd.R (Kd.int .i64) 3 w32 w.heap.size (fun _ => True) u7 x7_1) := ⟨h0_⟩
      have n1_ : Aside0 (w32.heap[gb101]? = some (.cells #[.slice (some ad104) l0_0.length c0_0, .slice A0_1 l0_1.length c0_1, .slice A0_2 l0_2.length c0_2] 96 (0, 0))) := ⟨h1_⟩
      have n2_ : Aside0 (w32.heap[gb102]? = some (.cells #[.slice A1_0 l1_0.length c1_0, .int .i64 a1_1, .int .i64 a1_2] 26 (0, 0))) := ⟨h2_⟩
      have n3_ : Aside0 (w32.heap[gb103]? = some (.cells #[.int .u64 a2_0, .int .u64 a2_1, .int .u64 a2_2, .int .u64 a2_3] 33 (0, 0))) := ⟨h3_⟩
      have n4_ : Aside0 (w32.heap[gb110]? = some (.cells #[.int .u64 0, .int .u64 0, .int .u64 0, .int .u64 0] 33 (0, 0))) := ⟨h4_⟩
      have n5_ : Aside0 (w.heap.size ≤ gb110) := ⟨h5_⟩
      have n6_ : Aside0 (w.heap.size ≤ gb110) := ⟨h6_⟩
      have n7_ : Aside0 (gb101 ≠ gb110) := ⟨h7_⟩
      have n8_ : Aside0 (gb110 ≠ gb101) := ⟨h8_⟩
      have n9_ : Aside0 (gb102 ≠ gb110) := ⟨h9_⟩
      have n10_ : Aside0 (gb110 ≠ gb102) := ⟨h10_⟩
      have n11_ : Aside0 (gb103 ≠ gb110) := ⟨h11_⟩
      have n12_ : Aside0 (gb110 ≠ gb103) := ⟨h12_⟩
      have n13_ : Aside0 (Below w.heap.size w w32) := ⟨h13_⟩
      clear HO_7
      clear BK101
      clear BK102
      clear BK103
      clear HB
      clear h0_ h1_ h2_ h3_ h4_ h5_ h6_ h7_ h8_ h9_ h10_ h11_ h12_ h13_
      have HO_7 := n0_
      have BK101 := n1_
      have BK102 := n2_
      have BK103 := n3_
      have BK110 := n4_
      have GW110 := n5_
      have GE110 := n6_
      have NB101_110 := n7_
      have NB110_101 := n8_
      have NB102_110 := n9_
      have NB110_102 := n10_
      have NB103_110 := n11_
      have NB110_103 := n12_
      have HB := n13_
      clear n0_ n1_ n2_ n3_ n4_ n5_ n6_ n7_ n8_ n9_ n10_ n11_ n12_ n13_
      have hHeld : w32.cell? ⟨gb101, 0, none⟩ = some (.slice (some ad104) l0_0.length c0_0) ∧ w32.cell? ⟨gb101, 1, none⟩ = some (.slice A0_1 l0_1.length c0_1) ∧ w32.cell? ⟨gb101, 2, none⟩ = some (.slice A0_2 l0_2.length c0_2) ∧ w32.cell? ⟨gb102, 0, none⟩ = some (.slice A1_0 l1_0.length c1_0) ∧ w32.cell? ⟨gb102, 1, none⟩ = some (.int .i64 a1_1) ∧ w32.cell? ⟨gb102, 2, none⟩ = some (.int .i64 a1_2) ∧ w32.cell? ⟨gb103, 0, none⟩ = some (.int .u64 a2_0) ∧ w32.cell? ⟨gb103, 1, none⟩ = some (.int .u64 a2_1) ∧ w32.cell? ⟨gb103, 2, none⟩ = some (.int .u64 a2_2) ∧ w32.cell? ⟨gb103, 3, none⟩ = some (.int .u64 a2_3) ∧ w32.cell? (ad104.add ((x8_1).toNat * 10)) = some (.int .i64 ((rd_T150 l0_0 x8_1).f0)) ∧ w32.cell? ⟨(ad104.add ((x8_1).toNat * 10)).block, (ad104.add ((x8_1).toNat * 10)).off + 1, none⟩ = some (.int .i64 ((rd_T150 l0_0 x8_1).f1)) ∧ w32.cell? ⟨(ad104.add ((x8_1).toNat * 10)).block, (ad104.add ((x8_1).toNat * 10)).off + 2, none⟩ = some (.int .u64 ((rd_T150 l0_0 x8_1).f2.f0)) ∧ w32.cell? ⟨(ad104.add ((x8_1).toNat * 10)).block, (ad104.add ((x8_1).toNat * 10)).off + 3, none⟩ = some (.int .u64 ((rd_T150 l0_0 x8_1).f2.f1)) ∧ w32.cell? ⟨(ad104.add ((x8_1).toNat * 10)).block, (ad104.add ((x8_1).toNat * 10)).off + 4, none⟩ = some (.int .u64 ((rd_T150 l0_0 x8_1).f2.f2)) ∧ w32.cell? ⟨(ad104.add ((x8_1).toNat * 10)).block, (ad104.add ((x8_1).toNat * 10)).off + 5, none⟩ = some (.int .u64 ((rd_T150 l0_0 x8_1).f2.f3)) ∧ w32.cell? ⟨(ad104.add ((x8_1).toNat * 10)).block, (ad104.add ((x8_1).toNat * 10)).off + 6, none⟩ = some (.int .u64 ((rd_T150 l0_0 x8_1).f3.f0)) ∧ w32.cell? ⟨(ad104.add ((x8_1).toNat * 10)).block, (ad104.add ((x8_1).toNat * 10)).off + 7, none⟩ = some (.int .u64 ((rd_T150 l0_0 x8_1).f3.f1)) ∧ w32.cell? ⟨(ad104.add ((x8_1).toNat * 10)).block, (ad104.add ((x8_1).toNat * 10)).off + 8, none⟩ = some (.int .u64 ((rd_T150 l0_0 x8_1).f3.f2)) ∧ w32.cell? ⟨(ad104.add ((x8_1).toNat * 10)).block, (ad104.add ((x8_1).toNat * 10)).off + 9, none⟩ = some (.int .u64 ((rd_T150 l0_0 x8_1).f3.f3)) := hS_
      refine norm_ (a' := ?_) ?_ ?_
      rotate_left
      ·simp only [putAll, Act.put, List.setIfInBounds_toArray, List.set_cons_zero, List.set_cons_succ]
       rfl
      refine one_ (i := 14) (N := none) #[true, true, true, true, true, true, true, true, true, true, true, true, true, true, true, false] rfl rfl (one_of HT_.out (by kernel_rfl)) (by decide) (fun K hK => ?_)
      have hs33 : w32.cell? ⟨gb110, 0, none⟩ = some (.int .u64 0) := (blk_cell BK110.out 0).trans rfl
      have hfs33 := blk_frozen BK110.out 0
      have hns33_0 := NB101_110.out
      have hns33_1 := NB102_110.out
      have hns33_2 := NB103_110.out
      have hms33_0 := NB110_101.out
      have hms33_1 := NB110_102.out
      have hms33_2 := NB110_103.out
      have hs34 : w32.cell? ⟨gb110, 1, none⟩ = some (.int .u64 0) := (blk_cell BK110.out 1).trans rfl
      have hfs34 := blk_frozen BK110.out 1
      have hns34_0 := NB101_110.out
      have hns34_1 := NB102_110.out
      have hns34_2 := NB103_110.out
      have hms34_0 := NB110_101.out
      have hms34_1 := NB110_102.out
      have hms34_2 := NB110_103.out
      have hs35 : w32.cell? ⟨gb110, 2, none⟩ = some (.int .u64 0) := (blk_cell BK110.out 2).trans rfl
      have hfs35 := blk_frozen BK110.out 2
      have hns35_0 := NB101_110.out
      have hns35_1 := NB102_110.out
      have hns35_2 := NB103_110.out
      have hms35_0 := NB110_101.out
      have hms35_1 := NB110_102.out
      have hms35_2 := NB110_103.out
      have hs36 : w32.cell? ⟨gb110, 3, none⟩ = some (.int .u64 0) := (blk_cell BK110.out 3).trans rfl
      have hfs36 := blk_frozen BK110.out 3
      have hns36_0 := NB101_110.out
      have hns36_1 := NB102_110.out
      have hns36_2 := NB103_110.out
      have hms36_0 := NB110_101.out
      have hms36_1 := NB110_102.out
      have hms36_2 := NB110_103.out
      refine skip_ (w1 := ?_) (by rfl) rfl ?_ ?_
      rotate_left
      ·go_simp
       rfl
      refine hK.out _ _ ⟨((cell_far (p := ⟨gb110, _, none⟩) NB101_110.out _).trans (((cell_far (p := ⟨gb110, _, none⟩) NB101_110.out _).trans (((cell_far (p := ⟨gb110, _, none⟩) NB101_110.out _).trans (((cell_far (p := ⟨gb110, _, none⟩) NB101_110.out _).trans (hHeld.1)))))))), ((cell_far (p := ⟨gb110, _, none⟩) NB101_110.out _).trans (((cell_far (p := ⟨gb110, _, none⟩) NB101_110.out _).trans (((cell_far (p := ⟨gb110, _, none⟩) NB101_110.out _).trans (((cell_far (p := ⟨gb110, _, none⟩) NB101_110.out _).trans (hHeld.2.1)))))))), ((cell_far (p := ⟨gb110, _, none⟩) NB101_110.out _).trans (((cell_far (p := ⟨gb110, _, none⟩) NB101_110.out _).trans (((cell_far (p := ⟨gb110, _, none⟩) NB101_110.out _).trans (((cell_far (p := ⟨gb110, _, none⟩) NB101_110.out _).trans (hHeld.2.2.1)))))))), ((cell_far (p := ⟨gb110, _, none⟩) NB102_110.out _).trans (((cell_far (p := ⟨gb110, _, none⟩) NB102_110.out _).trans (((cell_far (p := ⟨gb110, _, none⟩) NB102_110.out _).trans (((cell_far (p := ⟨gb110, _, none⟩) NB102_110.out _).trans (hHeld.2.2.2.1)))))))), ((cell_far (p := ⟨gb110, _, none⟩) NB102_110.out _).trans (((cell_far (p := ⟨gb110, _, none⟩) NB102_110.out _).trans (((cell_far (p := ⟨gb110, _, none⟩) NB102_110.out _).trans (((cell_far (p := ⟨gb110, _, none⟩) NB102_110.out _).trans (hHeld.2.2.2.2.1)))))))), ((cell_far (p := ⟨gb110, _, none⟩) NB102_110.out _).trans (((cell_far (p := ⟨gb110, _, none⟩) NB102_110.out _).trans (((cell_far (p := ⟨gb110, _, none⟩) NB102_110.out _).trans (((cell_far (p := ⟨gb110, _, none⟩) NB102_110.out _).trans (hHeld.2.2.2.2.2.1)))))))), ((cell_far (p := ⟨gb110, _, none⟩) NB103_110.out _).trans (((cell_far (p := ⟨gb110, _, none⟩) NB103_110.out _).trans (((cell_far (p := ⟨gb110, _, none⟩) NB103_110.out _).trans (((cell_far (p := ⟨gb110, _, none⟩) NB103_110.out _).trans (hHeld.2.2.2.2.2.2.1)))))))), ((cell_far (p := ⟨gb110, _, none⟩) NB103_110.out _).trans (((cell_far (p := ⟨gb110, _, none⟩) NB103_110.out _).trans (((cell_far (p := ⟨gb110, _, none⟩) NB103_110.out _).trans (((cell_far (p := ⟨gb110, _, none⟩) NB103_110.out _).trans (hHeld.2.2.2.2.2.2.2.1)))))))), ((cell_far (p := ⟨gb110, _, none⟩) NB103_110.out _).trans (((cell_far (p := ⟨gb110, _, none⟩) NB103_110.out _).trans (((cell_far (p := ⟨gb110, _, none⟩) NB103_110.out _).trans (((cell_far (p := ⟨gb110, _, none⟩) NB103_110.out _).trans (hHeld.2.2.2.2.2.2.2.2.1)))))))), ((cell_far (p := ⟨gb110, _, none⟩) NB103_110.out _).trans (((cell_far (p := ⟨gb110, _, none⟩) NB103_110.out _).trans (((cell_far (p := ⟨gb110, _, none⟩) NB103_110.out _).trans (((cell_far (p := ⟨gb110, _, none⟩) NB103_110.out _).trans (hHeld.2.2.2.2.2.2.2.2.2.1)))))))), ((cell_far (p := ⟨gb110, _, none⟩) F1_ _).trans (((cell_far (p := ⟨gb110, _, none⟩) F1_ _).trans (((cell_far (p := ⟨gb110, _, none⟩) F1_ _).trans (((cell_far (p := ⟨gb110, _, none⟩) F1_ _).trans (hHeld.2.2.2.2.2.2.2.2.2.2.1)))))))), ((cell_far (p := ⟨gb110, _, none⟩) F2_ _).trans (((cell_far (p := ⟨gb110, _, none⟩) F2_ _).trans (((cell_far (p := ⟨gb110, _, none⟩) F2_ _).trans (((cell_far (p := ⟨gb110, _, none⟩) F2_ _).trans (hHeld.2.2.2.2.2.2.2.2.2.2.2.1)))))))), ((cell_far (p := ⟨gb110, _, none⟩) F3_ _).trans (((cell_far (p := ⟨gb110, _, none⟩) F3_ _).trans (((cell_far (p := ⟨gb110, _, none⟩) F3_ _).trans (((cell_far (p := ⟨gb110, _, none⟩) F3_ _).trans (hHeld.2.2.2.2.2.2.2.2.2.2.2.2.1)))))))), ((cell_far (p := ⟨gb110, _, none⟩) F4_ _).trans (((cell_far (p := ⟨gb110, _, none⟩) F4_ _).trans (((cell_far (p := ⟨gb110, _, none⟩) F4_ _).trans (((cell_far (p := ⟨gb110, _, none⟩) F4_ _).trans (hHeld.2.2.2.2.2.2.2.2.2.2.2.2.2.1)))))))), ((cell_far (p := ⟨gb110, _, none⟩) F5_ _).trans (((cell_far (p := ⟨gb110, _, none⟩) F5_ _).trans (((cell_far (p := ⟨gb110, _, none⟩) F5_ _).trans (((cell_far (p := ⟨gb110, _, none⟩) F5_ _).trans (hHeld.2.2.2.2.2.2.2.2.2.2.2.2.2.2.1)))))))), ((cell_far (p := ⟨gb110, _, none⟩) F6_ _).trans (((cell_far (p := ⟨gb110, _, none⟩) F6_ _).trans (((cell_far (p := ⟨gb110, _, none⟩) F6_ _).trans (((cell_far (p := ⟨gb110, _, none⟩) F6_ _).trans (hHeld.2.2.2.2.2.2.2.2.2.2.2.2.2.2.2.1)))))))), ((cell_far (p := ⟨gb110, _, none⟩) F7_ _).trans (((cell_far (p := ⟨gb110, _, none⟩) F7_ _).trans (((cell_far (p := ⟨gb110, _, none⟩) F7_ _).trans (((cell_far (p := ⟨gb110, _, none⟩) F7_ _).trans (hHeld.2.2.2.2.2.2.2.2.2.2.2.2.2.2.2.2.1)))))))), ((cell_far (p := ⟨gb110, _, none⟩) F8_ _).trans (((cell_far (p := ⟨gb110, _, none⟩) F8_ _).trans (((cell_far (p := ⟨gb110, _, none⟩) F8_ _).trans (((cell_far (p := ⟨gb110, _, none⟩) F8_ _).trans (hHeld.2.2.2.2.2.2.2.2.2.2.2.2.2.2.2.2.2.1)))))))), ((cell_far (p := ⟨gb110, _, none⟩) F9_ _).trans (((cell_far (p := ⟨gb110, _, none⟩) F9_ _).trans (((cell_far (p := ⟨gb110, _, none⟩) F9_ _).trans (((cell_far (p := ⟨gb110, _, none⟩) F9_ _).trans (hHeld.2.2.2.2.2.2.2.2.2.2.2.2.2.2.2.2.2.2.1)))))))), ((cell_far (p := ⟨gb110, _, none⟩) F10_ _).trans (((cell_far (p := ⟨gb110, _, none⟩) F10_ _).trans (((cell_far (p := ⟨gb110, _, none⟩) F10_ _).trans (((cell_far (p := ⟨gb110, _, none⟩) F10_ _).trans (hHeld.2.2.2.2.2.2.2.2.2.2.2.2.2.2.2.2.2.2.2))))))))⟩ (fun hHeld => ?_)
      clear hK K
      refine pure_ (i := 15) (N := some 10) (v := ?_) (a' := ?_) #[true, true, true, true, true, true, true, true, true, true, true, true, true, true, true, true] rfl rfl (any_of HT_.out (by kernel_rfl)) (fun _ _ _ h => h) (Or.inl ⟨by rfl, ?_⟩) ?_ ?_
      rotate_left
      ·intro w'
       go_simp
       with_reducible rfl
      rotate_left
      ·simp only [Act.put, List.setIfInBounds_toArray, List.set_cons_zero, List.set_cons_succ, i64_w, i32_w]
       rfl
      refine done_ (done_of HT_.out (by kernel_rfl)) ?_
      try go_wp2
      go_roundg k1
      case measure => have := HK1.out; omega
      case rel => exact ⟨(x7_1), (wrap64 (x8_1 + 1)), (by first | rfl | (simp; done) | (simp [*]; done)), H', ⟨by have := HK1.out; omega⟩, ⟨by (with_reducible repeat (first | apply Kd.R_alloc | apply Kd.R_drewN | apply Kd.R_drew)); exact Kd.R_mono (Kd.R_far (p := ⟨gb110, 3, none⟩) (Kd.R_far (p := ⟨gb110, 2, none⟩) (Kd.R_far (p := ⟨gb110, 1, none⟩) (Kd.R_far (p := ⟨gb110, 0, none⟩) (Kd.R_types HO_7.out BK110.out (by decide)) (fun _ hk => hk.2) (.int .u64 t105)) (fun _ hk => hk.2) (.int .u64 t106)) (fun _ hk => hk.2) (.int .u64 t107)) (fun _ hk => hk.2) (.int .u64 t108)) (fun _ hk => trivial)⟩, ⟨by (with_reducible repeat (first | refine blk_drewN ?_ _ | refine blk_drew ?_ | refine blk_alloc ?_ _)); refine blk_far ?_ NB101_110.out _; (with_reducible repeat (first | refine blk_drewN ?_ _ | refine blk_drew ?_ | refine blk_alloc ?_ _)); refine blk_far ?_ NB101_110.out _; (with_reducible repeat (first | refine blk_drewN ?_ _ | refine blk_drew ?_ | refine blk_alloc ?_ _)); refine blk_far ?_ NB101_110.out _; (with_reducible repeat (first | refine blk_drewN ?_ _ | refine blk_drew ?_ | refine blk_alloc ?_ _)); refine blk_far ?_ NB101_110.out _; (with_reducible repeat (first | refine blk_drewN ?_ _ | refine blk_drew ?_ | refine blk_alloc ?_ _)); exact BK101.out⟩, ⟨by (with_reducible repeat (first | refine blk_drewN ?_ _ | refine blk_drew ?_ | refine blk_alloc ?_ _)); refine blk_far ?_ NB102_110.out _; (with_reducible repeat (first | refine blk_drewN ?_ _ | refine blk_drew ?_ | refine blk_alloc ?_ _)); refine blk_far ?_ NB102_110.out _; (with_reducible repeat (first | refine blk_drewN ?_ _ | refine blk_drew ?_ | refine blk_alloc ?_ _)); refine blk_far ?_ NB102_110.out _; (with_reducible repeat (first | refine blk_drewN ?_ _ | refine blk_drew ?_ | refine blk_alloc ?_ _)); refine blk_far ?_ NB102_110.out _; (with_reducible repeat (first | refine blk_drewN ?_ _ | refine blk_drew ?_ | refine blk_alloc ?_ _)); exact BK102.out⟩, ⟨by (with_reducible repeat (first | refine blk_drewN ?_ _ | refine blk_drew ?_ | refine blk_alloc ?_ _)); refine blk_far ?_ NB103_110.out _; (with_reducible repeat (first | refine blk_drewN ?_ _ | refine blk_drew ?_ | refine blk_alloc ?_ _)); refine blk_far ?_ NB103_110.out _; (with_reducible repeat (first | refine blk_drewN ?_ _ | refine blk_drew ?_ | refine blk_alloc ?_ _)); refine blk_far ?_ NB103_110.out _; (with_reducible repeat (first | refine blk_drewN ?_ _ | refine blk_drew ?_ | refine blk_alloc ?_ _)); refine blk_far ?_ NB103_110.out _; (with_reducible repeat (first | refine blk_drewN ?_ _ | refine blk_drew ?_ | refine blk_alloc ?_ _)); exact BK103.out⟩, ⟨F43_⟩⟩
    ·rw [if_neg c8] at H
     exact absurd H (by simp)
   ·rw [if_neg c7] at H
    have c7b0 : decide (x8_1 < (l0_0.length : Int)) = false := decide_eq_false c7
    clear c7
    obtain rfl := Option.some.inj H
    have hnb37 := NB101_102.out
    have hnc37 := NB102_101.out
    have hnb38 := NB101_103.out
    have hnc38 := NB103_101.out
    have hcz39_0 : wr.cell? ⟨gb101, 0, none⟩ = some (.slice A0_0 l0_0.length c0_0) := (blk_cell BK101.out 0).trans rfl
    have hcz39_1 : wr.cell? ⟨gb101, 1, none⟩ = some (.slice A0_1 l0_1.length c0_1) := (blk_cell BK101.out 1).trans rfl
    have hcz39_2 : wr.cell? ⟨gb101, 2, none⟩ = some (.slice A0_2 l0_2.length c0_2) := (blk_cell BK101.out 2).trans rfl
    have hfz39_0 := blk_frozen BK101.out 0
    have hfz39_1 := blk_frozen BK101.out 1
    have hfz39_2 := blk_frozen BK101.out 2
    go_wp2
    go_ret
    exact ⟨_, by first | rfl | (simp [errW_none, errW_some] <;> rfl) | (simp [*, errW_none, errW_some] <;> rfl), by (with_reducible repeat (first | apply Kd.R_alloc | apply Kd.R_drewN | apply Kd.R_drew)); exact HO_7.out, F44_⟩

end Go.Proofs.Ytppfkbigeknedaa.Q
