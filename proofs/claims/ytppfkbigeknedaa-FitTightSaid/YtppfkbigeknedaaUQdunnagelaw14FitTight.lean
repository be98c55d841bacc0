import Derived.Test.YtppfkbigeknedaaUQdunnagelaw14FitTightF
import Derived.Test.YtppfkbigeknedaaUQ0
import Derived.Test.YtppfkbigeknedaaUQdunnagelaw14up
import Derived.Test.YtppfkbigeknedaaUQdunnageref05Few
import Derived.Test.YtppfkbigeknedaaUQfitBest
import Derived.Test.YtppfkbigeknedaaUQfitFirst
import Derived.Test.YtppfkbigeknedaaUQfitFits
import Derived.Test.YtppfkbigeknedaaUQfitTighter
import Derived.Test.YtppfkbigeknedaaUQroomRest
import Derived.Test.YtppfkbigeknedaaUQvecSub
namespace Go.Proofs.Ytppfkbigeknedaa.Q
open Go.RowKit Go.Proofs.YtppfkbigeknedaaW.PrintWords Go.Proofs.YtppfkbigeknedaaW.PrintLast Go.Proofs.YtppfkbigeknedaaW.PrintMore
attribute [local go_sem] max2_int min2_int max_two min_two max_three min_three max_four min_four   -- for this text's walks alone
set_option linter.unusedVariables false
set_option linter.unusedSimpArgs false

attribute [local go_sem] eqe_ii eqe_nn eqe_ni eqe_nni
open FoldQdunnagelaw14FitTight
/-! ### dunnagelaw14_FitTight: function 17 -/
mutual
def dunnagelaw14_FitTight.j0 : Nat → Bool → List Int → Bool → List (S150) → List (S260) → List (S70) → List (S70) → Int → Int → Int → Int → Int → Int → Int → Int → Int → Int → Option (Bool)
 | 0, _, _, _, _, _, _, _, _, _, _, _, _, _, _, _, _, _ => none
 | k + 1, x7, x9, x80, x102000, x102001, x102002, x103000, x103001, x103002, x104000, x104001, x104002, x104003, x124000, x124001, x124002, x124003 => if x80 = true then (some false) else (dunnagelaw14_FitTight.l0 k x7 x9 0 x102000 x102001 x102002 x103000 x103001 x103002 x104000 x104001 x104002 x104003 x124000 x124001 x124002 x124003)
def dunnagelaw14_FitTight.l0 : Nat → Bool → List Int → Int → List (S150) → List (S260) → List (S70) → List (S70) → Int → Int → Int → Int → Int → Int → Int → Int → Int → Int → Option (Bool)
 | 0, _, _, _, _, _, _, _, _, _, _, _, _, _, _, _, _, _ => none
 | k + 1, x7, x9, x14, x102000, x102001, x102002, x103000, x103001, x103002, x104000, x104001, x104002, x104003, x124000, x124001, x124002, x124003 => if x14 < (x9.length : Int) then (if 0 ≤ x14 then ((room_Rest.f k x102000 x102001 x102002 x103000 x103001 x103002 (rd x9 x14)).bind fun bt129 => ((vec_Sub.f bt129.1 bt129.2.1 bt129.2.2.1 bt129.2.2.2.1 x104000 x104001 x104002 x104003).bind fun bt135 => (if bt129.2.2.2.2.isNone = true then (if bt135.2.2.2.2.isNone = true then ((fit_Tighter.f bt135.1 bt135.2.1 bt135.2.2.1 bt135.2.2.2.1 x124000 x124001 x124002 x124003).bind fun t143 => (if t143 = true then (some false) else (dunnagelaw14_FitTight.l0 k x7 x9 (wrap64 (x14 + 1)) x102000 x102001 x102002 x103000 x103001 x103002 x104000 x104001 x104002 x104003 x124000 x124001 x124002 x124003))) else (some false)) else (some false)))) else (none)) else (some x7)
end
def dunnagelaw14_FitTight.f (k : Nat) (l0_0 : List (S150)) (l0_1 : List (S260)) (l0_2 : List (S70)) (l1_0 : List (S70)) (a1_1 : Int) (a1_2 : Int) (a2_0 : Int) (a2_1 : Int) (a2_2 : Int) (a2_3 : Int) : Option (Bool) := (dunnagelaw14_up.f k).bind fun t104 => ((dunnageref05_Few.f l0_0 l0_1 l0_2 ([] : List (S185)) 0 0 l1_0 a1_1 a1_2).bind fun t105 => (if t105 = true then ((fit_Fits.f k l0_0 l0_1 l0_2 l1_0 a1_1 a1_2 a2_0 a2_1 a2_2 a2_3).bind fun t106 => (if (t106.length : Int) = 0 then (if t104 = true then ((fit_First.f k l0_0 l0_1 l0_2 l1_0 a1_1 a1_2 a2_0 a2_1 a2_2 a2_3).bind fun t109 => (if t109 = 0 then ((fit_Best.f k l0_0 l0_1 l0_2 l1_0 a1_1 a1_2 a2_0 a2_1 a2_2 a2_3).bind fun t110 => (some (t110 == 0))) else (some false))) else (some false)) else ((fit_Best.f k l0_0 l0_1 l0_2 l1_0 a1_1 a1_2 a2_0 a2_1 a2_2 a2_3).bind fun t111 => ((room_Rest.f k l0_0 l0_1 l0_2 l1_0 a1_1 a1_2 t111).bind fun bt112 => ((vec_Sub.f bt112.1 bt112.2.1 bt112.2.2.1 bt112.2.2.2.1 a2_0 a2_1 a2_2 a2_3).bind fun bt118 => (if bt112.2.2.2.2.isNone = true then (if bt118.2.2.2.2.isNone = true then ((fit_First.f k l0_0 l0_1 l0_2 l1_0 a1_1 a1_2 a2_0 a2_1 a2_2 a2_3).bind fun t126 => (if 0 < (t106.length : Int) then (dunnagelaw14_FitTight.j0 k t104 t106 (t126 != (rd t106 0)) l0_0 l0_1 l0_2 l1_0 a1_1 a1_2 a2_0 a2_1 a2_2 a2_3 bt118.1 bt118.2.1 bt118.2.2.1 bt118.2.2.2.1) else (none))) else (dunnagelaw14_FitTight.j0 k t104 t106 true l0_0 l0_1 l0_2 l1_0 a1_1 a1_2 a2_0 a2_1 a2_2 a2_3 bt118.1 bt118.2.1 bt118.2.2.1 bt118.2.2.2.1)) else (dunnagelaw14_FitTight.j0 k t104 t106 true l0_0 l0_1 l0_2 l1_0 a1_1 a1_2 a2_0 a2_1 a2_2 a2_3 bt118.1 bt118.2.1 bt118.2.2.1 bt118.2.2.2.1))))))) else (some t104)))
theorem dunnagelaw14_FitTight.mono_l : ∀ k, (∀ y0 y1 y2 y3 y4 y5 y6 y7 y8 y9 y10 y11 y12 y13 y14 y15 y16, LeO (dunnagelaw14_FitTight.j0 k y0 y1 y2 y3 y4 y5 y6 y7 y8 y9 y10 y11 y12 y13 y14 y15 y16) (dunnagelaw14_FitTight.j0 (k + 1) y0 y1 y2 y3 y4 y5 y6 y7 y8 y9 y10 y11 y12 y13 y14 y15 y16)) ∧ (∀ y0 y1 y2 y3 y4 y5 y6 y7 y8 y9 y10 y11 y12 y13 y14 y15 y16, LeO (dunnagelaw14_FitTight.l0 k y0 y1 y2 y3 y4 y5 y6 y7 y8 y9 y10 y11 y12 y13 y14 y15 y16) (dunnagelaw14_FitTight.l0 (k + 1) y0 y1 y2 y3 y4 y5 y6 y7 y8 y9 y10 y11 y12 y13 y14 y15 y16))
 | 0 => ⟨fun _ _ _ _ _ _ _ _ _ _ _ _ _ _ _ _ _ r h => by simp [dunnagelaw14_FitTight.j0] at h, fun _ _ _ _ _ _ _ _ _ _ _ _ _ _ _ _ _ r h => by simp [dunnagelaw14_FitTight.l0] at h⟩
 | k + 1 => by
  obtain ⟨ih0, ih1⟩ := dunnagelaw14_FitTight.mono_l k
  refine ⟨?_, ?_⟩
  ·intro y0 y1 y2 y3 y4 y5 y6 y7 y8 y9 y10 y11 y12 y13 y14 y15 y16
   unfold dunnagelaw14_FitTight.j0
   repeat' first
   | (with_reducible exact ih0 _ _ _ _ _ _ _ _ _ _ _ _ _ _ _ _ _)
   | (with_reducible exact ih1 _ _ _ _ _ _ _ _ _ _ _ _ _ _ _ _ _)
   | (with_reducible exact dunnagelaw14_up.mono _)
   | (with_reducible exact fit_Best.mono _ _ _ _ _ _ _ _ _ _ _)
   | (with_reducible exact fit_First.mono _ _ _ _ _ _ _ _ _ _ _)
   | (with_reducible exact fit_Fits.mono _ _ _ _ _ _ _ _ _ _ _)
   | (with_reducible exact room_Rest.mono _ _ _ _ _ _ _ _)
   | (with_reducible exact LeO.refl _)
   | (with_reducible exact LeO.none _)
   | (with_reducible refine LeO.ite ?_ ?_)
   | (with_reducible refine LeO.bind ?_ (fun _ => ?_))
   | exact ih0 _ _ _ _ _ _ _ _ _ _ _ _ _ _ _ _ _
   | exact ih1 _ _ _ _ _ _ _ _ _ _ _ _ _ _ _ _ _
   | exact dunnagelaw14_up.mono _
   | exact fit_Best.mono _ _ _ _ _ _ _ _ _ _ _
   | exact fit_First.mono _ _ _ _ _ _ _ _ _ _ _
   | exact fit_Fits.mono _ _ _ _ _ _ _ _ _ _ _
   | exact room_Rest.mono _ _ _ _ _ _ _ _
   | exact LeO.none _
   | refine LeO.ite ?_ ?_
   | refine LeO.bind ?_ (fun _ => ?_)
  ·intro y0 y1 y2 y3 y4 y5 y6 y7 y8 y9 y10 y11 y12 y13 y14 y15 y16
   unfold dunnagelaw14_FitTight.l0
   repeat' first
   | (with_reducible exact ih0 _ _ _ _ _ _ _ _ _ _ _ _ _ _ _ _ _)
   | (with_reducible exact ih1 _ _ _ _ _ _ _ _ _ _ _ _ _ _ _ _ _)
   | (with_reducible exact dunnagelaw14_up.mono _)
   | (with_reducible exact fit_Best.mono _ _ _ _ _ _ _ _ _ _ _)
   | (with_reducible exact fit_First.mono _ _ _ _ _ _ _ _ _ _ _)
   | (with_reducible exact fit_Fits.mono _ _ _ _ _ _ _ _ _ _ _)
   | (with_reducible exact room_Rest.mono _ _ _ _ _ _ _ _)
   | (with_reducible exact LeO.refl _)
   | (with_reducible exact LeO.none _)
   | (with_reducible refine LeO.ite ?_ ?_)
   | (with_reducible refine LeO.bind ?_ (fun _ => ?_))
   | exact ih0 _ _ _ _ _ _ _ _ _ _ _ _ _ _ _ _ _
   | exact ih1 _ _ _ _ _ _ _ _ _ _ _ _ _ _ _ _ _
   | exact dunnagelaw14_up.mono _
   | exact fit_Best.mono _ _ _ _ _ _ _ _ _ _ _
   | exact fit_First.mono _ _ _ _ _ _ _ _ _ _ _
   | exact fit_Fits.mono _ _ _ _ _ _ _ _ _ _ _
   | exact room_Rest.mono _ _ _ _ _ _ _ _
   | exact LeO.none _
   | refine LeO.ite ?_ ?_
   | refine LeO.bind ?_ (fun _ => ?_)
theorem dunnagelaw14_FitTight.mono : ∀ a0 a1 a2 a3 a4 a5 a6 a7 a8 a9 k, LeO (dunnagelaw14_FitTight.f k a0 a1 a2 a3 a4 a5 a6 a7 a8 a9) (dunnagelaw14_FitTight.f (k + 1) a0 a1 a2 a3 a4 a5 a6 a7 a8 a9) := by
 intro a0 a1 a2 a3 a4 a5 a6 a7 a8 a9 k
 obtain ⟨ih0, ih1⟩ := dunnagelaw14_FitTight.mono_l k
 unfold dunnagelaw14_FitTight.f
 repeat' first
   | (with_reducible exact ih0 _ _ _ _ _ _ _ _ _ _ _ _ _ _ _ _ _)
   | (with_reducible exact ih1 _ _ _ _ _ _ _ _ _ _ _ _ _ _ _ _ _)
   | (with_reducible exact dunnagelaw14_up.mono _)
   | (with_reducible exact fit_Best.mono _ _ _ _ _ _ _ _ _ _ _)
   | (with_reducible exact fit_First.mono _ _ _ _ _ _ _ _ _ _ _)
   | (with_reducible exact fit_Fits.mono _ _ _ _ _ _ _ _ _ _ _)
   | (with_reducible exact room_Rest.mono _ _ _ _ _ _ _ _)
   | (with_reducible exact LeO.refl _)
   | (with_reducible exact LeO.none _)
   | (with_reducible refine LeO.ite ?_ ?_)
   | (with_reducible refine LeO.bind ?_ (fun _ => ?_))
   | exact ih0 _ _ _ _ _ _ _ _ _ _ _ _ _ _ _ _ _
   | exact ih1 _ _ _ _ _ _ _ _ _ _ _ _ _ _ _ _ _
   | exact dunnagelaw14_up.mono _
   | exact fit_Best.mono _ _ _ _ _ _ _ _ _ _ _
   | exact fit_First.mono _ _ _ _ _ _ _ _ _ _ _
   | exact fit_Fits.mono _ _ _ _ _ _ _ _ _ _ _
   | exact room_Rest.mono _ _ _ _ _ _ _ _
   | exact LeO.none _
   | refine LeO.ite ?_ ?_
   | refine LeO.bind ?_ (fun _ => ?_)
def dunnagelaw14_FitTight.T8 : Bool × List (List Nat × List Nat) := (true, [([], []), ([], []), ([], []), ([], []), ([], []), ([2, 3, 4], [2, 3, 4]), ([0, 1, 5, 5], [0, 1, 5]), ([6], [6]), ([7], [7]), ([7], [7]), ([], []), ([10, 8, 6, 0, 1, 2, 3, 4, 5, 6, 7, 8, 10], [8, 10]), ([9, 11, 0, 1, 2, 3, 4, 5, 6, 7, 8, 9, 10, 11], [9])])
def dunnagelaw14_FitTight.B8 : List Nat := [0, 0, 0, 0, 0, 28, 63, 127, 255, 255, 0, 1535, 4095]
theorem dunnagelaw14_FitTight.tab8 : rtab .any (opsOf Try.f17 8) = dunnagelaw14_FitTight.T8 := by kernel_rfl
theorem dunnagelaw14_FitTight.bits8 : waitsOk dunnagelaw14_FitTight.T8.2 dunnagelaw14_FitTight.B8 = true := by kernel_rfl
def dunnagelaw14_FitTight.T10 : Bool × List (List Nat × List Nat) := (true, [([], []), ([0], [0]), ([1], [1]), ([2], [2]), ([3, 2], [2, 3]), ([2, 4], [2, 4]), ([5, 2], [5]), ([6], [6]), ([6], [6]), ([6], [6]), ([7, 8, 9, 6, 6], [6, 7, 8, 9]), ([6], [6]), ([11, 6], [6, 11]), ([12, 6], [6, 12]), ([10, 13, 6], [6, 10, 13]), ([6, 14], [6, 14])])
def dunnagelaw14_FitTight.B10 : List Nat := [0, 1, 3, 7, 15, 31, 63, 127, 127, 127, 1023, 127, 2175, 6271, 16383, 32767]
theorem dunnagelaw14_FitTight.tab10 : rtab .any (opsOf Try.f17 10) = dunnagelaw14_FitTight.T10 := by kernel_rfl
theorem dunnagelaw14_FitTight.bits10 : waitsOk dunnagelaw14_FitTight.T10.2 dunnagelaw14_FitTight.B10 = true := by kernel_rfl
def dunnagelaw14_FitTight.T15 : Bool × List (List Nat × List Nat) := (true, [([], []), ([], []), ([], []), ([], []), ([2, 3], [2, 3]), ([4], [4]), ([0, 1, 5], [0, 1, 5]), ([6], [6]), ([7], [7]), ([7], [7]), ([], []), ([10, 8, 6, 0, 1, 2, 3, 4, 5, 6, 7, 8, 10], [8, 10]), ([9, 11, 0, 1, 2, 3, 4, 5, 6, 7, 8, 9, 10, 11], [9])])
def dunnagelaw14_FitTight.B15 : List Nat := [0, 0, 0, 0, 12, 28, 63, 127, 255, 255, 0, 1535, 4095]
theorem dunnagelaw14_FitTight.tab15 : rtab .any (opsOf Try.f17 15) = dunnagelaw14_FitTight.T15 := by kernel_rfl
theorem dunnagelaw14_FitTight.bits15 : waitsOk dunnagelaw14_FitTight.T15.2 dunnagelaw14_FitTight.B15 = true := by kernel_rfl
set_option maxHeartbeats 8000000 in
set_option maxRecDepth 100000 in
theorem dunnagelaw14_FitTight.calls (k : Nat) (A0_0 : Option Addr) (c0_0 : Nat) (l0_0 : List (S150)) (A0_1 : Option Addr) (c0_1 : Nat) (l0_1 : List (S260)) (A0_2 : Option Addr) (c0_2 : Nat) (l0_2 : List (S70)) (A1_0 : Option Addr) (c1_0 : Nat) (l1_0 : List (S70)) (a1_1 : Int) (a1_2 : Int) (a2_0 : Int) (a2_1 : Int) (a2_2 : Int) (a2_3 : Int) (r : Bool) (w : World) (hr0_0 : Kd.C k150 w A0_0 l0_0.length l0_0) (hc0_0 : l0_0.length ≤ c0_0) (hr0_1 : Kd.C k260 w A0_1 l0_1.length l0_1) (hc0_1 : l0_1.length ≤ c0_1) (hr0_2 : Kd.C k70 w A0_2 l0_2.length l0_2) (hc0_2 : l0_2.length ≤ c0_2) (hr1_0 : Kd.C k70 w A1_0 l1_0.length l1_0) (hc1_0 : l1_0.length ≤ c1_0) (h : dunnagelaw14_FitTight.f k l0_0 l0_1 l0_2 l1_0 a1_1 a1_2 a2_0 a2_1 a2_2 a2_3 = some r) :
  Calls Try.prog 17 #[.agg #[.slice A0_0 l0_0.length c0_0, .slice A0_1 l0_1.length c0_1, .slice A0_2 l0_2.length c0_2], .agg #[.slice A1_0 l1_0.length c1_0, .int .i64 a1_1, .int .i64 a1_2], .agg #[.int .u64 a2_0, .int .u64 a2_1, .int .u64 a2_2, .int .u64 a2_3]] w fun e w' => e = .returned (.bool r) ∧ Below w.heap.size w w' := by
 have hu96 := Try.underlying96
 have hu26 := Try.underlying26
 have hu33 := Try.underlying33
 have hu99 := Try.underlying99
 have hu35 := Try.underlying35
 have hu66 := Try.underlying66
 have HR0_0 := Aside0.mk hr0_0
 have HC0_0 := Aside0.mk hc0_0
 clear hr0_0 hc0_0
 have HR0_1 := Aside0.mk hr0_1
 have HC0_1 := Aside0.mk hc0_1
 clear hr0_1 hc0_1
 have HR0_2 := Aside0.mk hr0_2
 have HC0_2 := Aside0.mk hc0_2
 clear hr0_2 hc0_2
 have HR1_0 := Aside0.mk hr1_0
 have HC1_0 := Aside0.mk hc1_0
 clear hr1_0 hc1_0
 have HB := Aside0.mk (Below.refl w.heap.size w)
 have H : ((dunnagelaw14_up.f k).bind fun t104 => ((dunnageref05_Few.f l0_0 l0_1 l0_2 ([] : List (S185)) 0 0 l1_0 a1_1 a1_2).bind fun t105 => (if t105 = true then ((fit_Fits.f k l0_0 l0_1 l0_2 l1_0 a1_1 a1_2 a2_0 a2_1 a2_2 a2_3).bind fun t106 => (if (t106.length : Int) = 0 then (if t104 = true then ((fit_First.f k l0_0 l0_1 l0_2 l1_0 a1_1 a1_2 a2_0 a2_1 a2_2 a2_3).bind fun t109 => (if t109 = 0 then ((fit_Best.f k l0_0 l0_1 l0_2 l1_0 a1_1 a1_2 a2_0 a2_1 a2_2 a2_3).bind fun t110 => (some (t110 == 0))) else (some false))) else (some false)) else ((fit_Best.f k l0_0 l0_1 l0_2 l1_0 a1_1 a1_2 a2_0 a2_1 a2_2 a2_3).bind fun t111 => ((room_Rest.f k l0_0 l0_1 l0_2 l1_0 a1_1 a1_2 t111).bind fun bt112 => ((vec_Sub.f bt112.1 bt112.2.1 bt112.2.2.1 bt112.2.2.2.1 a2_0 a2_1 a2_2 a2_3).bind fun bt118 => (if bt112.2.2.2.2.isNone = true then (if bt118.2.2.2.2.isNone = true then ((fit_First.f k l0_0 l0_1 l0_2 l1_0 a1_1 a1_2 a2_0 a2_1 a2_2 a2_3).bind fun t126 => (if 0 < (t106.length : Int) then (dunnagelaw14_FitTight.j0 k t104 t106 (t126 != (rd t106 0)) l0_0 l0_1 l0_2 l1_0 a1_1 a1_2 a2_0 a2_1 a2_2 a2_3 bt118.1 bt118.2.1 bt118.2.2.1 bt118.2.2.2.1) else (none))) else (dunnagelaw14_FitTight.j0 k t104 t106 true l0_0 l0_1 l0_2 l1_0 a1_1 a1_2 a2_0 a2_1 a2_2 a2_3 bt118.1 bt118.2.1 bt118.2.2.1 bt118.2.2.2.1)) else (dunnagelaw14_FitTight.j0 k t104 t106 true l0_0 l0_1 l0_2 l1_0 a1_1 a1_2 a2_0 a2_1 a2_2 a2_3 bt118.1 bt118.2.1 bt118.2.2.1 bt118.2.2.2.1))))))) else (some t104)))) = some r := h
 clear h
 replace H := Option.bind_eq_some_iff.mp H
 obtain ⟨t104, A40, H⟩ := H
 replace H : ((dunnageref05_Few.f l0_0 l0_1 l0_2 ([] : List (S185)) 0 0 l1_0 a1_1 a1_2).bind fun t105 => (if t105 = true then ((fit_Fits.f k l0_0 l0_1 l0_2 l1_0 a1_1 a1_2 a2_0 a2_1 a2_2 a2_3).bind fun t106 => (if (t106.length : Int) = 0 then (if t104 = true then ((fit_First.f k l0_0 l0_1 l0_2 l1_0 a1_1 a1_2 a2_0 a2_1 a2_2 a2_3).bind fun t109 => (if t109 = 0 then ((fit_Best.f k l0_0 l0_1 l0_2 l1_0 a1_1 a1_2 a2_0 a2_1 a2_2 a2_3).bind fun t110 => (some (t110 == 0))) else (some false))) else (some false)) else ((fit_Best.f k l0_0 l0_1 l0_2 l1_0 a1_1 a1_2 a2_0 a2_1 a2_2 a2_3).bind fun t111 => ((room_Rest.f k l0_0 l0_1 l0_2 l1_0 a1_1 a1_2 t111).bind fun bt112 => ((vec_Sub.f bt112.1 bt112.2.1 bt112.2.2.1 bt112.2.2.2.1 a2_0 a2_1 a2_2 a2_3).bind fun bt118 => (if bt112.2.2.2.2.isNone = true then (if bt118.2.2.2.2.isNone = true then ((fit_First.f k l0_0 l0_1 l0_2 l1_0 a1_1 a1_2 a2_0 a2_1 a2_2 a2_3).bind fun t126 => (if 0 < (t106.length : Int) then (dunnagelaw14_FitTight.j0 k t104 t106 (t126 != (rd t106 0)) l0_0 l0_1 l0_2 l1_0 a1_1 a1_2 a2_0 a2_1 a2_2 a2_3 bt118.1 bt118.2.1 bt118.2.2.1 bt118.2.2.2.1) else (none))) else (dunnagelaw14_FitTight.j0 k t104 t106 true l0_0 l0_1 l0_2 l1_0 a1_1 a1_2 a2_0 a2_1 a2_2 a2_3 bt118.1 bt118.2.1 bt118.2.2.1 bt118.2.2.2.1)) else (dunnagelaw14_FitTight.j0 k t104 t106 true l0_0 l0_1 l0_2 l1_0 a1_1 a1_2 a2_0 a2_1 a2_2 a2_3 bt118.1 bt118.2.1 bt118.2.2.1 bt118.2.2.2.1))))))) else (some t104))) = some r := H
 have A4 := Aside0.mk A40
 clear A40
 replace H := Option.bind_eq_some_iff.mp H
 obtain ⟨t105, A50, H⟩ := H
 replace H : (if t105 = true then ((fit_Fits.f k l0_0 l0_1 l0_2 l1_0 a1_1 a1_2 a2_0 a2_1 a2_2 a2_3).bind fun t106 => (if (t106.length : Int) = 0 then (if t104 = true then ((fit_First.f k l0_0 l0_1 l0_2 l1_0 a1_1 a1_2 a2_0 a2_1 a2_2 a2_3).bind fun t109 => (if t109 = 0 then ((fit_Best.f k l0_0 l0_1 l0_2 l1_0 a1_1 a1_2 a2_0 a2_1 a2_2 a2_3).bind fun t110 => (some (t110 == 0))) else (some false))) else (some false)) else ((fit_Best.f k l0_0 l0_1 l0_2 l1_0 a1_1 a1_2 a2_0 a2_1 a2_2 a2_3).bind fun t111 => ((room_Rest.f k l0_0 l0_1 l0_2 l1_0 a1_1 a1_2 t111).bind fun bt112 => ((vec_Sub.f bt112.1 bt112.2.1 bt112.2.2.1 bt112.2.2.2.1 a2_0 a2_1 a2_2 a2_3).bind fun bt118 => (if bt112.2.2.2.2.isNone = true then (if bt118.2.2.2.2.isNone = true then ((fit_First.f k l0_0 l0_1 l0_2 l1_0 a1_1 a1_2 a2_0 a2_1 a2_2 a2_3).bind fun t126 => (if 0 < (t106.length : Int) then (dunnagelaw14_FitTight.j0 k t104 t106 (t126 != (rd t106 0)) l0_0 l0_1 l0_2 l1_0 a1_1 a1_2 a2_0 a2_1 a2_2 a2_3 bt118.1 bt118.2.1 bt118.2.2.1 bt118.2.2.2.1) else (none))) else (dunnagelaw14_FitTight.j0 k t104 t106 true l0_0 l0_1 l0_2 l1_0 a1_1 a1_2 a2_0 a2_1 a2_2 a2_3 bt118.1 bt118.2.1 bt118.2.2.1 bt118.2.2.2.1)) else (dunnagelaw14_FitTight.j0 k t104 t106 true l0_0 l0_1 l0_2 l1_0 a1_1 a1_2 a2_0 a2_1 a2_2 a2_3 bt118.1 bt118.2.1 bt118.2.2.1 bt118.2.2.2.1))))))) else (some t104)) = some r := H
 have A5 := Aside0.mk A50
 clear A50
 by_cases c6 : t105 = true
 ·subst c6
  have H1 : ((fit_Fits.f k l0_0 l0_1 l0_2 l1_0 a1_1 a1_2 a2_0 a2_1 a2_2 a2_3).bind fun t106 => (if (t106.length : Int) = 0 then (if t104 = true then ((fit_First.f k l0_0 l0_1 l0_2 l1_0 a1_1 a1_2 a2_0 a2_1 a2_2 a2_3).bind fun t109 => (if t109 = 0 then ((fit_Best.f k l0_0 l0_1 l0_2 l1_0 a1_1 a1_2 a2_0 a2_1 a2_2 a2_3).bind fun t110 => (some (t110 == 0))) else (some false))) else (some false)) else ((fit_Best.f k l0_0 l0_1 l0_2 l1_0 a1_1 a1_2 a2_0 a2_1 a2_2 a2_3).bind fun t111 => ((room_Rest.f k l0_0 l0_1 l0_2 l1_0 a1_1 a1_2 t111).bind fun bt112 => ((vec_Sub.f bt112.1 bt112.2.1 bt112.2.2.1 bt112.2.2.2.1 a2_0 a2_1 a2_2 a2_3).bind fun bt118 => (if bt112.2.2.2.2.isNone = true then (if bt118.2.2.2.2.isNone = true then ((fit_First.f k l0_0 l0_1 l0_2 l1_0 a1_1 a1_2 a2_0 a2_1 a2_2 a2_3).bind fun t126 => (if 0 < (t106.length : Int) then (dunnagelaw14_FitTight.j0 k t104 t106 (t126 != (rd t106 0)) l0_0 l0_1 l0_2 l1_0 a1_1 a1_2 a2_0 a2_1 a2_2 a2_3 bt118.1 bt118.2.1 bt118.2.2.1 bt118.2.2.2.1) else (none))) else (dunnagelaw14_FitTight.j0 k t104 t106 true l0_0 l0_1 l0_2 l1_0 a1_1 a1_2 a2_0 a2_1 a2_2 a2_3 bt118.1 bt118.2.1 bt118.2.2.1 bt118.2.2.2.1)) else (dunnagelaw14_FitTight.j0 k t104 t106 true l0_0 l0_1 l0_2 l1_0 a1_1 a1_2 a2_0 a2_1 a2_2 a2_3 bt118.1 bt118.2.1 bt118.2.2.1 bt118.2.2.2.1))))))) = some r := by rw [if_pos rfl] at H; exact H
  clear H
  have H := H1
  clear H1
  replace H := Option.bind_eq_some_iff.mp H
  obtain ⟨t106, A70, H⟩ := H
  replace H : (if (t106.length : Int) = 0 then (if t104 = true then ((fit_First.f k l0_0 l0_1 l0_2 l1_0 a1_1 a1_2 a2_0 a2_1 a2_2 a2_3).bind fun t109 => (if t109 = 0 then ((fit_Best.f k l0_0 l0_1 l0_2 l1_0 a1_1 a1_2 a2_0 a2_1 a2_2 a2_3).bind fun t110 => (some (t110 == 0))) else (some false))) else (some false)) else ((fit_Best.f k l0_0 l0_1 l0_2 l1_0 a1_1 a1_2 a2_0 a2_1 a2_2 a2_3).bind fun t111 => ((room_Rest.f k l0_0 l0_1 l0_2 l1_0 a1_1 a1_2 t111).bind fun bt112 => ((vec_Sub.f bt112.1 bt112.2.1 bt112.2.2.1 bt112.2.2.2.1 a2_0 a2_1 a2_2 a2_3).bind fun bt118 => (if bt112.2.2.2.2.isNone = true then (if bt118.2.2.2.2.isNone = true then ((fit_First.f k l0_0 l0_1 l0_2 l1_0 a1_1 a1_2 a2_0 a2_1 a2_2 a2_3).bind fun t126 => (if 0 < (t106.length : Int) then (dunnagelaw14_FitTight.j0 k t104 t106 (t126 != (rd t106 0)) l0_0 l0_1 l0_2 l1_0 a1_1 a1_2 a2_0 a2_1 a2_2 a2_3 bt118.1 bt118.2.1 bt118.2.2.1 bt118.2.2.2.1) else (none))) else (dunnagelaw14_FitTight.j0 k t104 t106 true l0_0 l0_1 l0_2 l1_0 a1_1 a1_2 a2_0 a2_1 a2_2 a2_3 bt118.1 bt118.2.1 bt118.2.2.1 bt118.2.2.2.1)) else (dunnagelaw14_FitTight.j0 k t104 t106 true l0_0 l0_1 l0_2 l1_0 a1_1 a1_2 a2_0 a2_1 a2_2 a2_3 bt118.1 bt118.2.1 bt118.2.2.1 bt118.2.2.2.1)))))) = some r := H
  have A7 := Aside0.mk A70
  clear A70
  by_cases c8 : (t106.length : Int) = 0
  ·rw [if_pos c8] at H
   have c8b0 : ((t106.length : Int) == 0) = true := beq_iff_eq.mpr c8
   have c8b1 : ((t106.length : Int) != 0) = false := bne_eq_false_iff_eq.mpr c8
   clear c8
   by_cases c9 : t104 = true
   ·subst c9
    have H1 : ((fit_First.f k l0_0 l0_1 l0_2 l1_0 a1_1 a1_2 a2_0 a2_1 a2_2 a2_3).bind fun t109 => (if t109 = 0 then ((fit_Best.f k l0_0 l0_1 l0_2 l1_0 a1_1 a1_2 a2_0 a2_1 a2_2 a2_3).bind fun t110 => (some (t110 == 0))) else (some false))) = some r := by rw [if_pos rfl] at H; exact H
    clear H
    have H := H1
    clear H1
    replace H := Option.bind_eq_some_iff.mp H
    obtain ⟨t109, A100, H⟩ := H
    replace H : (if t109 = 0 then ((fit_Best.f k l0_0 l0_1 l0_2 l1_0 a1_1 a1_2 a2_0 a2_1 a2_2 a2_3).bind fun t110 => (some (t110 == 0))) else (some false)) = some r := H
    have A10 := Aside0.mk A100
    clear A100
    by_cases c11 : t109 = 0
    ·rw [if_pos c11] at H
     have c11b0 : (t109 == 0) = true := beq_iff_eq.mpr c11
     have c11b1 : (t109 != 0) = false := bne_eq_false_iff_eq.mpr c11
     clear c11
     replace H := Option.bind_eq_some_iff.mp H
     obtain ⟨t110, A120, H⟩ := H
     replace H : (some (t110 == 0)) = some r := H
     have A12 := Aside0.mk A120
     clear A120
     obtain rfl := Option.some.inj H
     go_enter Try.func17, Try.ntmps17
     go_wp2_with (first | ((with_reducible refine gate_dst (N := 3) rfl ?_); refine box_event ?hg (N := 3) ?hd (cs := #[.slice A0_0 l0_0.length c0_0, .slice A0_1 l0_1.length c0_1, .slice A0_2 l0_2.length c0_2]) (t := 96) ?hr ?_; (case hd => rfl); (case hg => rfl); (case hr => first | (go_simp; done) | (go_simp; rfl)); intro gb101 hg w13 hbox hb; have n0_ := Aside0.mk (below_step F27_ hb); have n1_ := Aside0.mk (hbox); have n2_ := Aside0.mk ((by rw [hg]; exact (below_size F27_) : w.heap.size ≤ gb101)); have n3_ := Aside0.mk ((by rw [hg]; exact (below_size F27_) : w.heap.size ≤ gb101)); clear HB; have HB := n0_; have BK101 := n1_; have GW101 := n2_; have GE101 := n3_; clear n0_ n1_ n2_ n3_; clear hb hbox hg) | ((with_reducible refine gate_dst (N := 4) rfl ?_); refine box_event ?hg (N := 4) ?hd (cs := #[.slice A1_0 l1_0.length c1_0, .int .i64 a1_1, .int .i64 a1_2]) (t := 26) ?hr ?_; (case hd => rfl); (case hg => rfl); (case hr => first | (go_simp; done) | (go_simp; rfl)); intro gb102 hg w14 hbox hb; have n0_ := Aside0.mk (blk_below (g := gb101) (o := .cells #[.slice A0_0 l0_0.length c0_0, .slice A0_1 l0_1.length c0_1, .slice A0_2 l0_2.length c0_2] 96 (0, 0)) F1_ hb); have n1_ := Aside0.mk (below_step F20_ hb); have n2_ := Aside0.mk (hbox); have n3_ := Aside0.mk ((by rw [hg]; exact (below_size F20_) : w.heap.size ≤ gb102)); have n4_ := Aside0.mk ((by rw [hg]; exact (below_size F20_) : w.heap.size ≤ gb102)); have n5_ := Aside0.mk ((by rw [hg]; exact Nat.ne_of_lt (blk_lt (g := gb101) (o := .cells #[.slice A0_0 l0_0.length c0_0, .slice A0_1 l0_1.length c0_1, .slice A0_2 l0_2.length c0_2] 96 (0, 0)) F1_) : gb101 ≠ gb102)); have n6_ := Aside0.mk ((by rw [hg]; exact Nat.ne_of_gt (blk_lt (g := gb101) (o := .cells #[.slice A0_0 l0_0.length c0_0, .slice A0_1 l0_1.length c0_1, .slice A0_2 l0_2.length c0_2] 96 (0, 0)) F1_) : gb102 ≠ gb101)); clear BK101; clear HB; have BK101 := n0_; have HB := n1_; have BK102 := n2_; have GW102 := n3_; have GE102 := n4_; have NB101_102 := n5_; have NB102_101 := n6_; clear n0_ n1_ n2_ n3_ n4_ n5_ n6_; clear hb hbox hg) | ((with_reducible refine gate_dst (N := 5) rfl ?_); refine box_event ?hg (N := 5) ?hd (cs := #[.int .u64 a2_0, .int .u64 a2_1, .int .u64 a2_2, .int .u64 a2_3]) (t := 33) ?hr ?_; (case hd => rfl); (case hg => rfl); (case hr => first | (go_simp; done) | (go_simp; rfl)); intro gb103 hg w15 hbox hb; have n0_ := Aside0.mk (blk_below (g := gb101) (o := .cells #[.slice A0_0 l0_0.length c0_0, .slice A0_1 l0_1.length c0_1, .slice A0_2 l0_2.length c0_2] 96 (0, 0)) F1_ hb); have n1_ := Aside0.mk (blk_below (g := gb102) (o := .cells #[.slice A1_0 l1_0.length c1_0, .int .i64 a1_1, .int .i64 a1_2] 26 (0, 0)) F2_ hb); have n2_ := Aside0.mk (below_step F16_ hb); have n3_ := Aside0.mk (hbox); have n4_ := Aside0.mk ((by rw [hg]; exact (below_size F16_) : w.heap.size ≤ gb103)); have n5_ := Aside0.mk ((by rw [hg]; exact (below_size F16_) : w.heap.size ≤ gb103)); have n6_ := Aside0.mk ((by rw [hg]; exact Nat.ne_of_lt (blk_lt (g := gb101) (o := .cells #[.slice A0_0 l0_0.length c0_0, .slice A0_1 l0_1.length c0_1, .slice A0_2 l0_2.length c0_2] 96 (0, 0)) F1_) : gb101 ≠ gb103)); have n7_ := Aside0.mk ((by rw [hg]; exact Nat.ne_of_gt (blk_lt (g := gb101) (o := .cells #[.slice A0_0 l0_0.length c0_0, .slice A0_1 l0_1.length c0_1, .slice A0_2 l0_2.length c0_2] 96 (0, 0)) F1_) : gb103 ≠ gb101)); have n8_ := Aside0.mk ((by rw [hg]; exact Nat.ne_of_lt (blk_lt (g := gb102) (o := .cells #[.slice A1_0 l1_0.length c1_0, .int .i64 a1_1, .int .i64 a1_2] 26 (0, 0)) F2_) : gb102 ≠ gb103)); have n9_ := Aside0.mk ((by rw [hg]; exact Nat.ne_of_gt (blk_lt (g := gb102) (o := .cells #[.slice A1_0 l1_0.length c1_0, .int .i64 a1_1, .int .i64 a1_2] 26 (0, 0)) F2_) : gb103 ≠ gb102)); clear BK101; clear BK102; clear HB; have BK101 := n0_; have BK102 := n1_; have HB := n2_; have BK103 := n3_; have GW103 := n4_; have GE103 := n5_; have NB101_103 := n6_; have NB103_101 := n7_; have NB102_103 := n8_; have NB103_102 := n9_; clear n0_ n1_ n2_ n3_ n4_ n5_ n6_ n7_ n8_ n9_; clear hb hbox hg) | ((with_reducible refine gate_callee (f := 63) rfl ?_); refine goesL_ (some 19) rfl rfl Try.func63 (by kernel_rfl) rfl #[] rfl F10_ ?_; (with_reducible refine (dunnagelaw14_up.calls k  true _ A4.out).mono ?_); rintro e w16 ⟨rfl, hb⟩; refine ⟨_, rfl, ?_⟩; have n0_ := Aside0.mk (blk_below (g := gb101) (o := .cells #[.slice A0_0 l0_0.length c0_0, .slice A0_1 l0_1.length c0_1, .slice A0_2 l0_2.length c0_2] 96 (0, 0)) F1_ hb); have n1_ := Aside0.mk (blk_below (g := gb102) (o := .cells #[.slice A1_0 l1_0.length c1_0, .int .i64 a1_1, .int .i64 a1_2] 26 (0, 0)) F2_ hb); have n2_ := Aside0.mk (blk_below (g := gb103) (o := .cells #[.int .u64 a2_0, .int .u64 a2_1, .int .u64 a2_2, .int .u64 a2_3] 33 (0, 0)) F3_ hb); have n3_ := Aside0.mk (below_step F7_ hb); clear BK101; clear BK102; clear BK103; clear HB; have BK101 := n0_; have BK102 := n1_; have BK103 := n2_; have HB := n3_; clear n0_ n1_ n2_ n3_; (try clear hb); (try clear hb2); (try clear hk); (try clear hi); have hnb17 := NB101_102.out; have hnc17 := NB102_101.out; have hnb18 := NB101_103.out; have hnc18 := NB103_101.out; have hcz19_0 : w16.cell? ⟨gb101, 0, none⟩ = some (.slice A0_0 l0_0.length c0_0) := (blk_cell BK101.out 0).trans rfl; have hcz19_1 : w16.cell? ⟨gb101, 1, none⟩ = some (.slice A0_1 l0_1.length c0_1) := (blk_cell BK101.out 1).trans rfl; have hcz19_2 : w16.cell? ⟨gb101, 2, none⟩ = some (.slice A0_2 l0_2.length c0_2) := (blk_cell BK101.out 2).trans rfl; have hfz19_0 := blk_frozen BK101.out 0; have hfz19_1 := blk_frozen BK101.out 1; have hfz19_2 := blk_frozen BK101.out 2; have hnb20 := NB102_103.out; have hnc20 := NB103_102.out; have hcz21_0 : w16.cell? ⟨gb102, 0, none⟩ = some (.slice A1_0 l1_0.length c1_0) := (blk_cell BK102.out 0).trans rfl; have hcz21_1 : w16.cell? ⟨gb102, 1, none⟩ = some (.int .i64 a1_1) := (blk_cell BK102.out 1).trans rfl; have hcz21_2 : w16.cell? ⟨gb102, 2, none⟩ = some (.int .i64 a1_2) := (blk_cell BK102.out 2).trans rfl; have hfz21_0 := blk_frozen BK102.out 0; have hfz21_1 := blk_frozen BK102.out 1; have hfz21_2 := blk_frozen BK102.out 2) | ((with_reducible refine gate_callee (f := 60) rfl ?_); refine goesL_ (some 23) rfl rfl Try.func60 (by kernel_rfl) rfl #[.agg #[.slice A0_0 l0_0.length c0_0, .slice A0_1 l0_1.length c0_1, .slice A0_2 l0_2.length c0_2], .agg #[.slice none 0 0, .int .i64 0, .int .i64 0], .agg #[.slice A1_0 l1_0.length c1_0, .int .i64 a1_1, .int .i64 a1_2]] rfl F10_ ?_; (refine (dunnageref05_Few.calls _ _ l0_0 _ _ l0_1 _ _ l0_2 _ _ ([] : List (S185)) 0 0 _ _ l1_0 a1_1 a1_2 true _ ?side1 ?side2 ?side3 ?side4 ?side5 ?side6 ?side7 ?side8 ?side9 ?side10 A5.out).mono ?_); (case side1 => exact F11_); (case side2 => exact HC0_0.out); (case side3 => exact F12_); (case side4 => exact HC0_1.out); (case side5 => exact F13_); (case side6 => exact HC0_2.out); (case side7 => exact Kd.C_nil _ _); (case side8 => exact Nat.le_refl _); (case side9 => exact F14_); (case side10 => exact HC1_0.out); rintro e w22 ⟨rfl, hb⟩; refine ⟨_, rfl, ?_⟩; have n0_ := Aside0.mk (blk_below (g := gb101) (o := .cells #[.slice A0_0 l0_0.length c0_0, .slice A0_1 l0_1.length c0_1, .slice A0_2 l0_2.length c0_2] 96 (0, 0)) F1_ hb); have n1_ := Aside0.mk (blk_below (g := gb102) (o := .cells #[.slice A1_0 l1_0.length c1_0, .int .i64 a1_1, .int .i64 a1_2] 26 (0, 0)) F2_ hb); have n2_ := Aside0.mk (blk_below (g := gb103) (o := .cells #[.int .u64 a2_0, .int .u64 a2_1, .int .u64 a2_2, .int .u64 a2_3] 33 (0, 0)) F3_ hb); have n3_ := Aside0.mk (below_step F7_ hb); clear BK101; clear BK102; clear BK103; clear HB; have BK101 := n0_; have BK102 := n1_; have BK103 := n2_; have HB := n3_; clear n0_ n1_ n2_ n3_; (try clear hb); (try clear hb2); (try clear hk); (try clear hi); have hcz23_0 : w22.cell? ⟨gb101, 0, none⟩ = some (.slice A0_0 l0_0.length c0_0) := (blk_cell BK101.out 0).trans rfl; have hcz23_1 : w22.cell? ⟨gb101, 1, none⟩ = some (.slice A0_1 l0_1.length c0_1) := (blk_cell BK101.out 1).trans rfl; have hcz23_2 : w22.cell? ⟨gb101, 2, none⟩ = some (.slice A0_2 l0_2.length c0_2) := (blk_cell BK101.out 2).trans rfl; have hfz23_0 := blk_frozen BK101.out 0; have hfz23_1 := blk_frozen BK101.out 1; have hfz23_2 := blk_frozen BK101.out 2; have hcz24_0 : w22.cell? ⟨gb102, 0, none⟩ = some (.slice A1_0 l1_0.length c1_0) := (blk_cell BK102.out 0).trans rfl; have hcz24_1 : w22.cell? ⟨gb102, 1, none⟩ = some (.int .i64 a1_1) := (blk_cell BK102.out 1).trans rfl; have hcz24_2 : w22.cell? ⟨gb102, 2, none⟩ = some (.int .i64 a1_2) := (blk_cell BK102.out 2).trans rfl; have hfz24_0 := blk_frozen BK102.out 0; have hfz24_1 := blk_frozen BK102.out 1; have hfz24_2 := blk_frozen BK102.out 2; have hcz25_0 : w22.cell? ⟨gb103, 0, none⟩ = some (.int .u64 a2_0) := (blk_cell BK103.out 0).trans rfl; have hcz25_1 : w22.cell? ⟨gb103, 1, none⟩ = some (.int .u64 a2_1) := (blk_cell BK103.out 1).trans rfl; have hcz25_2 : w22.cell? ⟨gb103, 2, none⟩ = some (.int .u64 a2_2) := (blk_cell BK103.out 2).trans rfl; have hcz25_3 : w22.cell? ⟨gb103, 3, none⟩ = some (.int .u64 a2_3) := (blk_cell BK103.out 3).trans rfl; have hfz25_0 := blk_frozen BK103.out 0; have hfz25_1 := blk_frozen BK103.out 1; have hfz25_2 := blk_frozen BK103.out 2; have hfz25_3 := blk_frozen BK103.out 3) | ((with_reducible refine gate_callee (f := 67) rfl ?_); refine goesL_ (some 30) rfl rfl Try.func67 (by kernel_rfl) rfl #[.agg #[.slice A0_0 l0_0.length c0_0, .slice A0_1 l0_1.length c0_1, .slice A0_2 l0_2.length c0_2], .agg #[.slice A1_0 l1_0.length c1_0, .int .i64 a1_1, .int .i64 a1_2], .agg #[.int .u64 a2_0, .int .u64 a2_1, .int .u64 a2_2, .int .u64 a2_3]] rfl F10_ ?_; (with_reducible refine (fit_Fits.calls k _ _ l0_0 _ _ l0_1 _ _ l0_2 _ _ l1_0 a1_1 a1_2 a2_0 a2_1 a2_2 a2_3 t106 _ ?side1 ?side2 ?side3 ?side4 ?side5 ?side6 ?side7 ?side8 A7.out).mono ?_); (case side1 => exact F11_); (case side2 => exact HC0_0.out); (case side3 => exact F12_); (case side4 => exact HC0_1.out); (case side5 => exact F13_); (case side6 => exact HC0_2.out); (case side7 => exact F14_); (case side8 => exact HC1_0.out); rintro e w26 ⟨v107, rfl, ho0, hb⟩; refine ⟨_, rfl, ?_⟩; have n0_ := Aside0.mk (Kd.R_lower ho0 (below_size F7_)); have n1_ := Aside0.mk (blk_below (g := gb101) (o := .cells #[.slice A0_0 l0_0.length c0_0, .slice A0_1 l0_1.length c0_1, .slice A0_2 l0_2.length c0_2] 96 (0, 0)) F1_ hb); have n2_ := Aside0.mk (blk_below (g := gb102) (o := .cells #[.slice A1_0 l1_0.length c1_0, .int .i64 a1_1, .int .i64 a1_2] 26 (0, 0)) F2_ hb); have n3_ := Aside0.mk (blk_below (g := gb103) (o := .cells #[.int .u64 a2_0, .int .u64 a2_1, .int .u64 a2_2, .int .u64 a2_3] 33 (0, 0)) F3_ hb); have n4_ := Aside0.mk (below_step F7_ hb); clear BK101; clear BK102; clear BK103; clear HB; have HO108 := n0_; have BK101 := n1_; have BK102 := n2_; have BK103 := n3_; have HB := n4_; clear n0_ n1_ n2_ n3_ n4_; (try clear hb); (try clear hb2); (try clear hk); (try clear hi); (try clear ho0); obtain ⟨Ao27, co27, eo27⟩ := Kd.R_slice HO108.out; subst eo27; have hcz28_0 : w26.cell? ⟨gb101, 0, none⟩ = some (.slice A0_0 l0_0.length c0_0) := (blk_cell BK101.out 0).trans rfl; have hcz28_1 : w26.cell? ⟨gb101, 1, none⟩ = some (.slice A0_1 l0_1.length c0_1) := (blk_cell BK101.out 1).trans rfl; have hcz28_2 : w26.cell? ⟨gb101, 2, none⟩ = some (.slice A0_2 l0_2.length c0_2) := (blk_cell BK101.out 2).trans rfl; have hfz28_0 := blk_frozen BK101.out 0; have hfz28_1 := blk_frozen BK101.out 1; have hfz28_2 := blk_frozen BK101.out 2; have hcz29_0 : w26.cell? ⟨gb102, 0, none⟩ = some (.slice A1_0 l1_0.length c1_0) := (blk_cell BK102.out 0).trans rfl; have hcz29_1 : w26.cell? ⟨gb102, 1, none⟩ = some (.int .i64 a1_1) := (blk_cell BK102.out 1).trans rfl; have hcz29_2 : w26.cell? ⟨gb102, 2, none⟩ = some (.int .i64 a1_2) := (blk_cell BK102.out 2).trans rfl; have hfz29_0 := blk_frozen BK102.out 0; have hfz29_1 := blk_frozen BK102.out 1; have hfz29_2 := blk_frozen BK102.out 2; have hcz30_0 : w26.cell? ⟨gb103, 0, none⟩ = some (.int .u64 a2_0) := (blk_cell BK103.out 0).trans rfl; have hcz30_1 : w26.cell? ⟨gb103, 1, none⟩ = some (.int .u64 a2_1) := (blk_cell BK103.out 1).trans rfl; have hcz30_2 : w26.cell? ⟨gb103, 2, none⟩ = some (.int .u64 a2_2) := (blk_cell BK103.out 2).trans rfl; have hcz30_3 : w26.cell? ⟨gb103, 3, none⟩ = some (.int .u64 a2_3) := (blk_cell BK103.out 3).trans rfl; have hfz30_0 := blk_frozen BK103.out 0; have hfz30_1 := blk_frozen BK103.out 1; have hfz30_2 := blk_frozen BK103.out 2; have hfz30_3 := blk_frozen BK103.out 3) | (go_at_call 69; (with_reducible refine (fit_First.calls k _ _ l0_0 _ _ l0_1 _ _ l0_2 _ _ l1_0 a1_1 a1_2 a2_0 a2_1 a2_2 a2_3 t109 _ ?side1 ?side2 ?side3 ?side4 ?side5 ?side6 ?side7 ?side8 A10.out).mono ?_); (case side1 => exact F11_); (case side2 => exact HC0_0.out); (case side3 => exact F12_); (case side4 => exact HC0_1.out); (case side5 => exact F13_); (case side6 => exact HC0_2.out); (case side7 => exact F14_); (case side8 => exact HC1_0.out); rintro e w31 ⟨rfl, hb⟩; have n0_ := Aside0.mk (Kd.R_below F29_ hb); have n1_ := Aside0.mk (blk_below (g := gb101) (o := .cells #[.slice A0_0 l0_0.length c0_0, .slice A0_1 l0_1.length c0_1, .slice A0_2 l0_2.length c0_2] 96 (0, 0)) F1_ hb); have n2_ := Aside0.mk (blk_below (g := gb102) (o := .cells #[.slice A1_0 l1_0.length c1_0, .int .i64 a1_1, .int .i64 a1_2] 26 (0, 0)) F2_ hb); have n3_ := Aside0.mk (blk_below (g := gb103) (o := .cells #[.int .u64 a2_0, .int .u64 a2_1, .int .u64 a2_2, .int .u64 a2_3] 33 (0, 0)) F3_ hb); have n4_ := Aside0.mk (below_step F7_ hb); clear HO108; clear BK101; clear BK102; clear BK103; clear HB; have HO108 := n0_; have BK101 := n1_; have BK102 := n2_; have BK103 := n3_; have HB := n4_; clear n0_ n1_ n2_ n3_ n4_; (try clear hb); (try clear hb2); (try clear hk); (try clear hi); have hcz32_0 : w31.cell? ⟨gb101, 0, none⟩ = some (.slice A0_0 l0_0.length c0_0) := (blk_cell BK101.out 0).trans rfl; have hcz32_1 : w31.cell? ⟨gb101, 1, none⟩ = some (.slice A0_1 l0_1.length c0_1) := (blk_cell BK101.out 1).trans rfl; have hcz32_2 : w31.cell? ⟨gb101, 2, none⟩ = some (.slice A0_2 l0_2.length c0_2) := (blk_cell BK101.out 2).trans rfl; have hfz32_0 := blk_frozen BK101.out 0; have hfz32_1 := blk_frozen BK101.out 1; have hfz32_2 := blk_frozen BK101.out 2; have hcz33_0 : w31.cell? ⟨gb102, 0, none⟩ = some (.slice A1_0 l1_0.length c1_0) := (blk_cell BK102.out 0).trans rfl; have hcz33_1 : w31.cell? ⟨gb102, 1, none⟩ = some (.int .i64 a1_1) := (blk_cell BK102.out 1).trans rfl; have hcz33_2 : w31.cell? ⟨gb102, 2, none⟩ = some (.int .i64 a1_2) := (blk_cell BK102.out 2).trans rfl; have hfz33_0 := blk_frozen BK102.out 0; have hfz33_1 := blk_frozen BK102.out 1; have hfz33_2 := blk_frozen BK102.out 2; have hcz34_0 : w31.cell? ⟨gb103, 0, none⟩ = some (.int .u64 a2_0) := (blk_cell BK103.out 0).trans rfl; have hcz34_1 : w31.cell? ⟨gb103, 1, none⟩ = some (.int .u64 a2_1) := (blk_cell BK103.out 1).trans rfl; have hcz34_2 : w31.cell? ⟨gb103, 2, none⟩ = some (.int .u64 a2_2) := (blk_cell BK103.out 2).trans rfl; have hcz34_3 : w31.cell? ⟨gb103, 3, none⟩ = some (.int .u64 a2_3) := (blk_cell BK103.out 3).trans rfl; have hfz34_0 := blk_frozen BK103.out 0; have hfz34_1 := blk_frozen BK103.out 1; have hfz34_2 := blk_frozen BK103.out 2; have hfz34_3 := blk_frozen BK103.out 3) | (go_at_call 71; (with_reducible refine (fit_Best.calls k _ _ l0_0 _ _ l0_1 _ _ l0_2 _ _ l1_0 a1_1 a1_2 a2_0 a2_1 a2_2 a2_3 t110 _ ?side1 ?side2 ?side3 ?side4 ?side5 ?side6 ?side7 ?side8 A12.out).mono ?_); (case side1 => exact F11_); (case side2 => exact HC0_0.out); (case side3 => exact F12_); (case side4 => exact HC0_1.out); (case side5 => exact F13_); (case side6 => exact HC0_2.out); (case side7 => exact F14_); (case side8 => exact HC1_0.out); rintro e w35 ⟨rfl, hb⟩; have n0_ := Aside0.mk (Kd.R_below F29_ hb); have n1_ := Aside0.mk (blk_below (g := gb101) (o := .cells #[.slice A0_0 l0_0.length c0_0, .slice A0_1 l0_1.length c0_1, .slice A0_2 l0_2.length c0_2] 96 (0, 0)) F1_ hb); have n2_ := Aside0.mk (blk_below (g := gb102) (o := .cells #[.slice A1_0 l1_0.length c1_0, .int .i64 a1_1, .int .i64 a1_2] 26 (0, 0)) F2_ hb); have n3_ := Aside0.mk (blk_below (g := gb103) (o := .cells #[.int .u64 a2_0, .int .u64 a2_1, .int .u64 a2_2, .int .u64 a2_3] 33 (0, 0)) F3_ hb); have n4_ := Aside0.mk (below_step F7_ hb); clear HO108; clear BK101; clear BK102; clear BK103; clear HB; have HO108 := n0_; have BK101 := n1_; have BK102 := n2_; have BK103 := n3_; have HB := n4_; clear n0_ n1_ n2_ n3_ n4_; (try clear hb); (try clear hb2); (try clear hk); (try clear hi)))
     go_ret
     exact ⟨F39_, F40_⟩
    ·rw [if_neg c11] at H
     have c11b0 : (t109 == 0) = false := beq_eq_false_iff_ne.mpr c11
     have c11b1 : (t109 != 0) = true := bne_iff_ne.mpr c11
     obtain rfl := Option.some.inj H
     go_enter Try.func17, Try.ntmps17
     go_wp2_with (first | ((with_reducible refine gate_dst (N := 3) rfl ?_); refine box_event ?hg (N := 3) ?hd (cs := #[.slice A0_0 l0_0.length c0_0, .slice A0_1 l0_1.length c0_1, .slice A0_2 l0_2.length c0_2]) (t := 96) ?hr ?_; (case hd => rfl); (case hg => rfl); (case hr => first | (go_simp; done) | (go_simp; rfl)); intro gb101 hg w36 hbox hb; have n0_ := Aside0.mk (below_step F27_ hb); have n1_ := Aside0.mk (hbox); have n2_ := Aside0.mk ((by rw [hg]; exact (below_size F27_) : w.heap.size ≤ gb101)); have n3_ := Aside0.mk ((by rw [hg]; exact (below_size F27_) : w.heap.size ≤ gb101)); clear HB; have HB := n0_; have BK101 := n1_; have GW101 := n2_; have GE101 := n3_; clear n0_ n1_ n2_ n3_; clear hb hbox hg) | ((with_reducible refine gate_dst (N := 4) rfl ?_); refine box_event ?hg (N := 4) ?hd (cs := #[.slice A1_0 l1_0.length c1_0, .int .i64 a1_1, .int .i64 a1_2]) (t := 26) ?hr ?_; (case hd => rfl); (case hg => rfl); (case hr => first | (go_simp; done) | (go_simp; rfl)); intro gb102 hg w37 hbox hb; have n0_ := Aside0.mk (blk_below (g := gb101) (o := .cells #[.slice A0_0 l0_0.length c0_0, .slice A0_1 l0_1.length c0_1, .slice A0_2 l0_2.length c0_2] 96 (0, 0)) F1_ hb); have n1_ := Aside0.mk (below_step F20_ hb); have n2_ := Aside0.mk (hbox); have n3_ := Aside0.mk ((by rw [hg]; exact (below_size F20_) : w.heap.size ≤ gb102)); have n4_ := Aside0.mk ((by rw [hg]; exact (below_size F20_) : w.heap.size ≤ gb102)); have n5_ := Aside0.mk ((by rw [hg]; exact Nat.ne_of_lt (blk_lt (g := gb101) (o := .cells #[.slice A0_0 l0_0.length c0_0, .slice A0_1 l0_1.length c0_1, .slice A0_2 l0_2.length c0_2] 96 (0, 0)) F1_) : gb101 ≠ gb102)); have n6_ := Aside0.mk ((by rw [hg]; exact Nat.ne_of_gt (blk_lt (g := gb101) (o := .cells #[.slice A0_0 l0_0.length c0_0, .slice A0_1 l0_1.length c0_1, .slice A0_2 l0_2.length c0_2] 96 (0, 0)) F1_) : gb102 ≠ gb101)); clear BK101; clear HB; have BK101 := n0_; have HB := n1_; have BK102 := n2_; have GW102 := n3_; have GE102 := n4_; have NB101_102 := n5_; have NB102_101 := n6_; clear n0_ n1_ n2_ n3_ n4_ n5_ n6_; clear hb hbox hg) | ((with_reducible refine gate_dst (N := 5) rfl ?_); refine box_event ?hg (N := 5) ?hd (cs := #[.int .u64 a2_0, .int .u64 a2_1, .int .u64 a2_2, .int .u64 a2_3]) (t := 33) ?hr ?_; (case hd => rfl); (case hg => rfl); (case hr => first | (go_simp; done) | (go_simp; rfl)); intro gb103 hg w38 hbox hb; have n0_ := Aside0.mk (blk_below (g := gb101) (o := .cells #[.slice A0_0 l0_0.length c0_0, .slice A0_1 l0_1.length c0_1, .slice A0_2 l0_2.length c0_2] 96 (0, 0)) F1_ hb); have n1_ := Aside0.mk (blk_below (g := gb102) (o := .cells #[.slice A1_0 l1_0.length c1_0, .int .i64 a1_1, .int .i64 a1_2] 26 (0, 0)) F2_ hb); have n2_ := Aside0.mk (below_step F16_ hb); have n3_ := Aside0.mk (hbox); have n4_ := Aside0.mk ((by rw [hg]; exact (below_size F16_) : w.heap.size ≤ gb103)); have n5_ := Aside0.mk ((by rw [hg]; exact (below_size F16_) : w.heap.size ≤ gb103)); have n6_ := Aside0.mk ((by rw [hg]; exact Nat.ne_of_lt (blk_lt (g := gb101) (o := .cells #[.slice A0_0 l0_0.length c0_0, .slice A0_1 l0_1.length c0_1, .slice A0_2 l0_2.length c0_2] 96 (0, 0)) F1_) : gb101 ≠ gb103)); have n7_ := Aside0.mk ((by rw [hg]; exact Nat.ne_of_gt (blk_lt (g := gb101) (o := .cells #[.slice A0_0 l0_0.length c0_0, .slice A0_1 l0_1.length c0_1, .slice A0_2 l0_2.length c0_2] 96 (0, 0)) F1_) : gb103 ≠ gb101)); have n8_ := Aside0.mk ((by rw [hg]; exact Nat.ne_of_lt (blk_lt (g := gb102) (o := .cells #[.slice A1_0 l1_0.length c1_0, .int .i64 a1_1, .int .i64 a1_2] 26 (0, 0)) F2_) : gb102 ≠ gb103)); have n9_ := Aside0.mk ((by rw [hg]; exact Nat.ne_of_gt (blk_lt (g := gb102) (o := .cells #[.slice A1_0 l1_0.length c1_0, .int .i64 a1_1, .int .i64 a1_2] 26 (0, 0)) F2_) : gb103 ≠ gb102)); clear BK101; clear BK102; clear HB; have BK101 := n0_; have BK102 := n1_; have HB := n2_; have BK103 := n3_; have GW103 := n4_; have GE103 := n5_; have NB101_103 := n6_; have NB103_101 := n7_; have NB102_103 := n8_; have NB103_102 := n9_; clear n0_ n1_ n2_ n3_ n4_ n5_ n6_ n7_ n8_ n9_; clear hb hbox hg) | ((with_reducible refine gate_callee (f := 63) rfl ?_); refine goesL_ (some 19) rfl rfl Try.func63 (by kernel_rfl) rfl #[] rfl F10_ ?_; (with_reducible refine (dunnagelaw14_up.calls k  true _ A4.out).mono ?_); rintro e w39 ⟨rfl, hb⟩; refine ⟨_, rfl, ?_⟩; have n0_ := Aside0.mk (blk_below (g := gb101) (o := .cells #[.slice A0_0 l0_0.length c0_0, .slice A0_1 l0_1.length c0_1, .slice A0_2 l0_2.length c0_2] 96 (0, 0)) F1_ hb); have n1_ := Aside0.mk (blk_below (g := gb102) (o := .cells #[.slice A1_0 l1_0.length c1_0, .int .i64 a1_1, .int .i64 a1_2] 26 (0, 0)) F2_ hb); have n2_ := Aside0.mk (blk_below (g := gb103) (o := .cells #[.int .u64 a2_0, .int .u64 a2_1, .int .u64 a2_2, .int .u64 a2_3] 33 (0, 0)) F3_ hb); have n3_ := Aside0.mk (below_step F7_ hb); clear BK101; clear BK102; clear BK103; clear HB; have BK101 := n0_; have BK102 := n1_; have BK103 := n2_; have HB := n3_; clear n0_ n1_ n2_ n3_; (try clear hb); (try clear hb2); (try clear hk); (try clear hi); have hnb40 := NB101_102.out; have hnc40 := NB102_101.out; have hnb41 := NB101_103.out; have hnc41 := NB103_101.out; have hcz42_0 : w39.cell? ⟨gb101, 0, none⟩ = some (.slice A0_0 l0_0.length c0_0) := (blk_cell BK101.out 0).trans rfl; have hcz42_1 : w39.cell? ⟨gb101, 1, none⟩ = some (.slice A0_1 l0_1.length c0_1) := (blk_cell BK101.out 1).trans rfl; have hcz42_2 : w39.cell? ⟨gb101, 2, none⟩ = some (.slice A0_2 l0_2.length c0_2) := (blk_cell BK101.out 2).trans rfl; have hfz42_0 := blk_frozen BK101.out 0; have hfz42_1 := blk_frozen BK101.out 1; have hfz42_2 := blk_frozen BK101.out 2; have hnb43 := NB102_103.out; have hnc43 := NB103_102.out; have hcz44_0 : w39.cell? ⟨gb102, 0, none⟩ = some (.slice A1_0 l1_0.length c1_0) := (blk_cell BK102.out 0).trans rfl; have hcz44_1 : w39.cell? ⟨gb102, 1, none⟩ = some (.int .i64 a1_1) := (blk_cell BK102.out 1).trans rfl; have hcz44_2 : w39.cell? ⟨gb102, 2, none⟩ = some (.int .i64 a1_2) := (blk_cell BK102.out 2).trans rfl; have hfz44_0 := blk_frozen BK102.out 0; have hfz44_1 := blk_frozen BK102.out 1; have hfz44_2 := blk_frozen BK102.out 2) | ((with_reducible refine gate_callee (f := 60) rfl ?_); refine goesL_ (some 23) rfl rfl Try.func60 (by kernel_rfl) rfl #[.agg #[.slice A0_0 l0_0.length c0_0, .slice A0_1 l0_1.length c0_1, .slice A0_2 l0_2.length c0_2], .agg #[.slice none 0 0, .int .i64 0, .int .i64 0], .agg #[.slice A1_0 l1_0.length c1_0, .int .i64 a1_1, .int .i64 a1_2]] rfl F10_ ?_; (refine (dunnageref05_Few.calls _ _ l0_0 _ _ l0_1 _ _ l0_2 _ _ ([] : List (S185)) 0 0 _ _ l1_0 a1_1 a1_2 true _ ?side1 ?side2 ?side3 ?side4 ?side5 ?side6 ?side7 ?side8 ?side9 ?side10 A5.out).mono ?_); (case side1 => exact F11_); (case side2 => exact HC0_0.out); (case side3 => exact F12_); (case side4 => exact HC0_1.out); (case side5 => exact F13_); (case side6 => exact HC0_2.out); (case side7 => exact Kd.C_nil _ _); (case side8 => exact Nat.le_refl _); (case side9 => exact F14_); (case side10 => exact HC1_0.out); rintro e w45 ⟨rfl, hb⟩; refine ⟨_, rfl, ?_⟩; have n0_ := Aside0.mk (blk_below (g := gb101) (o := .cells #[.slice A0_0 l0_0.length c0_0, .slice A0_1 l0_1.length c0_1, .slice A0_2 l0_2.length c0_2] 96 (0, 0)) F1_ hb); have n1_ := Aside0.mk (blk_below (g := gb102) (o := .cells #[.slice A1_0 l1_0.length c1_0, .int .i64 a1_1, .int .i64 a1_2] 26 (0, 0)) F2_ hb); have n2_ := Aside0.mk (blk_below (g := gb103) (o := .cells #[.int .u64 a2_0, .int .u64 a2_1, .int .u64 a2_2, .int .u64 a2_3] 33 (0, 0)) F3_ hb); have n3_ := Aside0.mk (below_step F7_ hb); clear BK101; clear BK102; clear BK103; clear HB; have BK101 := n0_; have BK102 := n1_; have BK103 := n2_; have HB := n3_; clear n0_ n1_ n2_ n3_; (try clear hb); (try clear hb2); (try clear hk); (try clear hi); have hcz46_0 : w45.cell? ⟨gb101, 0, none⟩ = some (.slice A0_0 l0_0.length c0_0) := (blk_cell BK101.out 0).trans rfl; have hcz46_1 : w45.cell? ⟨gb101, 1, none⟩ = some (.slice A0_1 l0_1.length c0_1) := (blk_cell BK101.out 1).trans rfl; have hcz46_2 : w45.cell? ⟨gb101, 2, none⟩ = some (.slice A0_2 l0_2.length c0_2) := (blk_cell BK101.out 2).trans rfl; have hfz46_0 := blk_frozen BK101.out 0; have hfz46_1 := blk_frozen BK101.out 1; have hfz46_2 := blk_frozen BK101.out 2; have hcz47_0 : w45.cell? ⟨gb102, 0, none⟩ = some (.slice A1_0 l1_0.length c1_0) := (blk_cell BK102.out 0).trans rfl; have hcz47_1 : w45.cell? ⟨gb102, 1, none⟩ = some (.int .i64 a1_1) := (blk_cell BK102.out 1).trans rfl; have hcz47_2 : w45.cell? ⟨gb102, 2, none⟩ = some (.int .i64 a1_2) := (blk_cell BK102.out 2).trans rfl; have hfz47_0 := blk_frozen BK102.out 0; have hfz47_1 := blk_frozen BK102.out 1; have hfz47_2 := blk_frozen BK102.out 2; have hcz48_0 : w45.cell? ⟨gb103, 0, none⟩ = some (.int .u64 a2_0) := (blk_cell BK103.out 0).trans rfl; have hcz48_1 : w45.cell? ⟨gb103, 1, none⟩ = some (.int .u64 a2_1) := (blk_cell BK103.out 1).trans rfl; have hcz48_2 : w45.cell? ⟨gb103, 2, none⟩ = some (.int .u64 a2_2) := (blk_cell BK103.out 2).trans rfl; have hcz48_3 : w45.cell? ⟨gb103, 3, none⟩ = some (.int .u64 a2_3) := (blk_cell BK103.out 3).trans rfl; have hfz48_0 := blk_frozen BK103.out 0; have hfz48_1 := blk_frozen BK103.out 1; have hfz48_2 := blk_frozen BK103.out 2; have hfz48_3 := blk_frozen BK103.out 3) | ((with_reducible refine gate_callee (f := 67) rfl ?_); refine goesL_ (some 30) rfl rfl Try.func67 (by kernel_rfl) rfl #[.agg #[.slice A0_0 l0_0.length c0_0, .slice A0_1 l0_1.length c0_1, .slice A0_2 l0_2.length c0_2], .agg #[.slice A1_0 l1_0.length c1_0, .int .i64 a1_1, .int .i64 a1_2], .agg #[.int .u64 a2_0, .int .u64 a2_1, .int .u64 a2_2, .int .u64 a2_3]] rfl F10_ ?_; (with_reducible refine (fit_Fits.calls k _ _ l0_0 _ _ l0_1 _ _ l0_2 _ _ l1_0 a1_1 a1_2 a2_0 a2_1 a2_2 a2_3 t106 _ ?side1 ?side2 ?side3 ?side4 ?side5 ?side6 ?side7 ?side8 A7.out).mono ?_); (case side1 => exact F11_); (case side2 => exact HC0_0.out); (case side3 => exact F12_); (case side4 => exact HC0_1.out); (case side5 => exact F13_); (case side6 => exact HC0_2.out); (case side7 => exact F14_); (case side8 => exact HC1_0.out); rintro e w49 ⟨v107, rfl, ho0, hb⟩; refine ⟨_, rfl, ?_⟩; have n0_ := Aside0.mk (Kd.R_lower ho0 (below_size F7_)); have n1_ := Aside0.mk (blk_below (g := gb101) (o := .cells #[.slice A0_0 l0_0.length c0_0, .slice A0_1 l0_1.length c0_1, .slice A0_2 l0_2.length c0_2] 96 (0, 0)) F1_ hb); have n2_ := Aside0.mk (blk_below (g := gb102) (o := .cells #[.slice A1_0 l1_0.length c1_0, .int .i64 a1_1, .int .i64 a1_2] 26 (0, 0)) F2_ hb); have n3_ := Aside0.mk (blk_below (g := gb103) (o := .cells #[.int .u64 a2_0, .int .u64 a2_1, .int .u64 a2_2, .int .u64 a2_3] 33 (0, 0)) F3_ hb); have n4_ := Aside0.mk (below_step F7_ hb); clear BK101; clear BK102; clear BK103; clear HB; have HO108 := n0_; have BK101 := n1_; have BK102 := n2_; have BK103 := n3_; have HB := n4_; clear n0_ n1_ n2_ n3_ n4_; (try clear hb); (try clear hb2); (try clear hk); (try clear hi); (try clear ho0); obtain ⟨Ao50, co50, eo50⟩ := Kd.R_slice HO108.out; subst eo50; have hcz51_0 : w49.cell? ⟨gb101, 0, none⟩ = some (.slice A0_0 l0_0.length c0_0) := (blk_cell BK101.out 0).trans rfl; have hcz51_1 : w49.cell? ⟨gb101, 1, none⟩ = some (.slice A0_1 l0_1.length c0_1) := (blk_cell BK101.out 1).trans rfl; have hcz51_2 : w49.cell? ⟨gb101, 2, none⟩ = some (.slice A0_2 l0_2.length c0_2) := (blk_cell BK101.out 2).trans rfl; have hfz51_0 := blk_frozen BK101.out 0; have hfz51_1 := blk_frozen BK101.out 1; have hfz51_2 := blk_frozen BK101.out 2; have hcz52_0 : w49.cell? ⟨gb102, 0, none⟩ = some (.slice A1_0 l1_0.length c1_0) := (blk_cell BK102.out 0).trans rfl; have hcz52_1 : w49.cell? ⟨gb102, 1, none⟩ = some (.int .i64 a1_1) := (blk_cell BK102.out 1).trans rfl; have hcz52_2 : w49.cell? ⟨gb102, 2, none⟩ = some (.int .i64 a1_2) := (blk_cell BK102.out 2).trans rfl; have hfz52_0 := blk_frozen BK102.out 0; have hfz52_1 := blk_frozen BK102.out 1; have hfz52_2 := blk_frozen BK102.out 2; have hcz53_0 : w49.cell? ⟨gb103, 0, none⟩ = some (.int .u64 a2_0) := (blk_cell BK103.out 0).trans rfl; have hcz53_1 : w49.cell? ⟨gb103, 1, none⟩ = some (.int .u64 a2_1) := (blk_cell BK103.out 1).trans rfl; have hcz53_2 : w49.cell? ⟨gb103, 2, none⟩ = some (.int .u64 a2_2) := (blk_cell BK103.out 2).trans rfl; have hcz53_3 : w49.cell? ⟨gb103, 3, none⟩ = some (.int .u64 a2_3) := (blk_cell BK103.out 3).trans rfl; have hfz53_0 := blk_frozen BK103.out 0; have hfz53_1 := blk_frozen BK103.out 1; have hfz53_2 := blk_frozen BK103.out 2; have hfz53_3 := blk_frozen BK103.out 3) | (go_at_call 69; (with_reducible refine (fit_First.calls k _ _ l0_0 _ _ l0_1 _ _ l0_2 _ _ l1_0 a1_1 a1_2 a2_0 a2_1 a2_2 a2_3 t109 _ ?side1 ?side2 ?side3 ?side4 ?side5 ?side6 ?side7 ?side8 A10.out).mono ?_); (case side1 => exact F11_); (case side2 => exact HC0_0.out); (case side3 => exact F12_); (case side4 => exact HC0_1.out); (case side5 => exact F13_); (case side6 => exact HC0_2.out); (case side7 => exact F14_); (case side8 => exact HC1_0.out); rintro e w54 ⟨rfl, hb⟩; have n0_ := Aside0.mk (Kd.R_below F29_ hb); have n1_ := Aside0.mk (blk_below (g := gb101) (o := .cells #[.slice A0_0 l0_0.length c0_0, .slice A0_1 l0_1.length c0_1, .slice A0_2 l0_2.length c0_2] 96 (0, 0)) F1_ hb); have n2_ := Aside0.mk (blk_below (g := gb102) (o := .cells #[.slice A1_0 l1_0.length c1_0, .int .i64 a1_1, .int .i64 a1_2] 26 (0, 0)) F2_ hb); have n3_ := Aside0.mk (blk_below (g := gb103) (o := .cells #[.int .u64 a2_0, .int .u64 a2_1, .int .u64 a2_2, .int .u64 a2_3] 33 (0, 0)) F3_ hb); have n4_ := Aside0.mk (below_step F7_ hb); clear HO108; clear BK101; clear BK102; clear BK103; clear HB; have HO108 := n0_; have BK101 := n1_; have BK102 := n2_; have BK103 := n3_; have HB := n4_; clear n0_ n1_ n2_ n3_ n4_; (try clear hb); (try clear hb2); (try clear hk); (try clear hi)))
     go_ret
     exact ⟨F39_, F40_⟩
   ·replace c9 := Bool.eq_false_iff.mpr c9
    subst c9
    have H1 : (some false) = some r := by rw [if_neg (show ¬ (false = true) by decide)] at H; exact H
    clear H
    have H := H1
    clear H1
    obtain rfl := Option.some.inj H
    go_enter Try.func17, Try.ntmps17
    go_wp2_with (first | ((with_reducible refine gate_dst (N := 3) rfl ?_); refine box_event ?hg (N := 3) ?hd (cs := #[.slice A0_0 l0_0.length c0_0, .slice A0_1 l0_1.length c0_1, .slice A0_2 l0_2.length c0_2]) (t := 96) ?hr ?_; (case hd => rfl); (case hg => rfl); (case hr => first | (go_simp; done) | (go_simp; rfl)); intro gb101 hg w55 hbox hb; have n0_ := Aside0.mk (below_step F27_ hb); have n1_ := Aside0.mk (hbox); have n2_ := Aside0.mk ((by rw [hg]; exact (below_size F27_) : w.heap.size ≤ gb101)); have n3_ := Aside0.mk ((by rw [hg]; exact (below_size F27_) : w.heap.size ≤ gb101)); clear HB; have HB := n0_; have BK101 := n1_; have GW101 := n2_; have GE101 := n3_; clear n0_ n1_ n2_ n3_; clear hb hbox hg) | ((with_reducible refine gate_dst (N := 4) rfl ?_); refine box_event ?hg (N := 4) ?hd (cs := #[.slice A1_0 l1_0.length c1_0, .int .i64 a1_1, .int .i64 a1_2]) (t := 26) ?hr ?_; (case hd => rfl); (case hg => rfl); (case hr => first | (go_simp; done) | (go_simp; rfl)); intro gb102 hg w56 hbox hb; have n0_ := Aside0.mk (blk_below (g := gb101) (o := .cells #[.slice A0_0 l0_0.length c0_0, .slice A0_1 l0_1.length c0_1, .slice A0_2 l0_2.length c0_2] 96 (0, 0)) F1_ hb); have n1_ := Aside0.mk (below_step F20_ hb); have n2_ := Aside0.mk (hbox); have n3_ := Aside0.mk ((by rw [hg]; exact (below_size F20_) : w.heap.size ≤ gb102)); have n4_ := Aside0.mk ((by rw [hg]; exact (below_size F20_) : w.heap.size ≤ gb102)); have n5_ := Aside0.mk ((by rw [hg]; exact Nat.ne_of_lt (blk_lt (g := gb101) (o := .cells #[.slice A0_0 l0_0.length c0_0, .slice A0_1 l0_1.length c0_1, .slice A0_2 l0_2.length c0_2] 96 (0, 0)) F1_) : gb101 ≠ gb102)); have n6_ := Aside0.mk ((by rw [hg]; exact Nat.ne_of_gt (blk_lt (g := gb101) (o := .cells #[.slice A0_0 l0_0.length c0_0, .slice A0_1 l0_1.length c0_1, .slice A0_2 l0_2.length c0_2] 96 (0, 0)) F1_) : gb102 ≠ gb101)); clear BK101; clear HB; have BK101 := n0_; have HB := n1_; have BK102 := n2_; have GW102 := n3_; have GE102 := n4_; have NB101_102 := n5_; have NB102_101 := n6_; clear n0_ n1_ n2_ n3_ n4_ n5_ n6_; clear hb hbox hg) | ((with_reducible refine gate_dst (N := 5) rfl ?_); refine box_event ?hg (N := 5) ?hd (cs := #[.int .u64 a2_0, .int .u64 a2_1, .int .u64 a2_2, .int .u64 a2_3]) (t := 33) ?hr ?_; (case hd => rfl); (case hg => rfl); (case hr => first | (go_simp; done) | (go_simp; rfl)); intro gb103 hg w57 hbox hb; have n0_ := Aside0.mk (blk_below (g := gb101) (o := .cells #[.slice A0_0 l0_0.length c0_0, .slice A0_1 l0_1.length c0_1, .slice A0_2 l0_2.length c0_2] 96 (0, 0)) F1_ hb); have n1_ := Aside0.mk (blk_below (g := gb102) (o := .cells #[.slice A1_0 l1_0.length c1_0, .int .i64 a1_1, .int .i64 a1_2] 26 (0, 0)) F2_ hb); have n2_ := Aside0.mk (below_step F16_ hb); have n3_ := Aside0.mk (hbox); have n4_ := Aside0.mk ((by rw [hg]; exact (below_size F16_) : w.heap.size ≤ gb103)); have n5_ := Aside0.mk ((by rw [hg]; exact (below_size F16_) : w.heap.size ≤ gb103)); have n6_ := Aside0.mk ((by rw [hg]; exact Nat.ne_of_lt (blk_lt (g := gb101) (o := .cells #[.slice A0_0 l0_0.length c0_0, .slice A0_1 l0_1.length c0_1, .slice A0_2 l0_2.length c0_2] 96 (0, 0)) F1_) : gb101 ≠ gb103)); have n7_ := Aside0.mk ((by rw [hg]; exact Nat.ne_of_gt (blk_lt (g := gb101) (o := .cells #[.slice A0_0 l0_0.length c0_0, .slice A0_1 l0_1.length c0_1, .slice A0_2 l0_2.length c0_2] 96 (0, 0)) F1_) : gb103 ≠ gb101)); have n8_ := Aside0.mk ((by rw [hg]; exact Nat.ne_of_lt (blk_lt (g := gb102) (o := .cells #[.slice A1_0 l1_0.length c1_0, .int .i64 a1_1, .int .i64 a1_2] 26 (0, 0)) F2_) : gb102 ≠ gb103)); have n9_ := Aside0.mk ((by rw [hg]; exact Nat.ne_of_gt (blk_lt (g := gb102) (o := .cells #[.slice A1_0 l1_0.length c1_0, .int .i64 a1_1, .int .i64 a1_2] 26 (0, 0)) F2_) : gb103 ≠ gb102)); clear BK101; clear BK102; clear HB; have BK101 := n0_; have BK102 := n1_; have HB := n2_; have BK103 := n3_; have GW103 := n4_; have GE103 := n5_; have NB101_103 := n6_; have NB103_101 := n7_; have NB102_103 := n8_; have NB103_102 := n9_; clear n0_ n1_ n2_ n3_ n4_ n5_ n6_ n7_ n8_ n9_; clear hb hbox hg) | ((with_reducible refine gate_callee (f := 63) rfl ?_); refine goesL_ (some 19) rfl rfl Try.func63 (by kernel_rfl) rfl #[] rfl F10_ ?_; (with_reducible refine (dunnagelaw14_up.calls k  false _ A4.out).mono ?_); rintro e w58 ⟨rfl, hb⟩; refine ⟨_, rfl, ?_⟩; have n0_ := Aside0.mk (blk_below (g := gb101) (o := .cells #[.slice A0_0 l0_0.length c0_0, .slice A0_1 l0_1.length c0_1, .slice A0_2 l0_2.length c0_2] 96 (0, 0)) F1_ hb); have n1_ := Aside0.mk (blk_below (g := gb102) (o := .cells #[.slice A1_0 l1_0.length c1_0, .int .i64 a1_1, .int .i64 a1_2] 26 (0, 0)) F2_ hb); have n2_ := Aside0.mk (blk_below (g := gb103) (o := .cells #[.int .u64 a2_0, .int .u64 a2_1, .int .u64 a2_2, .int .u64 a2_3] 33 (0, 0)) F3_ hb); have n3_ := Aside0.mk (below_step F7_ hb); clear BK101; clear BK102; clear BK103; clear HB; have BK101 := n0_; have BK102 := n1_; have BK103 := n2_; have HB := n3_; clear n0_ n1_ n2_ n3_; (try clear hb); (try clear hb2); (try clear hk); (try clear hi); have hnb59 := NB101_102.out; have hnc59 := NB102_101.out; have hnb60 := NB101_103.out; have hnc60 := NB103_101.out; have hcz61_0 : w58.cell? ⟨gb101, 0, none⟩ = some (.slice A0_0 l0_0.length c0_0) := (blk_cell BK101.out 0).trans rfl; have hcz61_1 : w58.cell? ⟨gb101, 1, none⟩ = some (.slice A0_1 l0_1.length c0_1) := (blk_cell BK101.out 1).trans rfl; have hcz61_2 : w58.cell? ⟨gb101, 2, none⟩ = some (.slice A0_2 l0_2.length c0_2) := (blk_cell BK101.out 2).trans rfl; have hfz61_0 := blk_frozen BK101.out 0; have hfz61_1 := blk_frozen BK101.out 1; have hfz61_2 := blk_frozen BK101.out 2; have hnb62 := NB102_103.out; have hnc62 := NB103_102.out; have hcz63_0 : w58.cell? ⟨gb102, 0, none⟩ = some (.slice A1_0 l1_0.length c1_0) := (blk_cell BK102.out 0).trans rfl; have hcz63_1 : w58.cell? ⟨gb102, 1, none⟩ = some (.int .i64 a1_1) := (blk_cell BK102.out 1).trans rfl; have hcz63_2 : w58.cell? ⟨gb102, 2, none⟩ = some (.int .i64 a1_2) := (blk_cell BK102.out 2).trans rfl; have hfz63_0 := blk_frozen BK102.out 0; have hfz63_1 := blk_frozen BK102.out 1; have hfz63_2 := blk_frozen BK102.out 2) | ((with_reducible refine gate_callee (f := 60) rfl ?_); refine goesL_ (some 23) rfl rfl Try.func60 (by kernel_rfl) rfl #[.agg #[.slice A0_0 l0_0.length c0_0, .slice A0_1 l0_1.length c0_1, .slice A0_2 l0_2.length c0_2], .agg #[.slice none 0 0, .int .i64 0, .int .i64 0], .agg #[.slice A1_0 l1_0.length c1_0, .int .i64 a1_1, .int .i64 a1_2]] rfl F10_ ?_; (refine (dunnageref05_Few.calls _ _ l0_0 _ _ l0_1 _ _ l0_2 _ _ ([] : List (S185)) 0 0 _ _ l1_0 a1_1 a1_2 true _ ?side1 ?side2 ?side3 ?side4 ?side5 ?side6 ?side7 ?side8 ?side9 ?side10 A5.out).mono ?_); (case side1 => exact F11_); (case side2 => exact HC0_0.out); (case side3 => exact F12_); (case side4 => exact HC0_1.out); (case side5 => exact F13_); (case side6 => exact HC0_2.out); (case side7 => exact Kd.C_nil _ _); (case side8 => exact Nat.le_refl _); (case side9 => exact F14_); (case side10 => exact HC1_0.out); rintro e w64 ⟨rfl, hb⟩; refine ⟨_, rfl, ?_⟩; have n0_ := Aside0.mk (blk_below (g := gb101) (o := .cells #[.slice A0_0 l0_0.length c0_0, .slice A0_1 l0_1.length c0_1, .slice A0_2 l0_2.length c0_2] 96 (0, 0)) F1_ hb); have n1_ := Aside0.mk (blk_below (g := gb102) (o := .cells #[.slice A1_0 l1_0.length c1_0, .int .i64 a1_1, .int .i64 a1_2] 26 (0, 0)) F2_ hb); have n2_ := Aside0.mk (blk_below (g := gb103) (o := .cells #[.int .u64 a2_0, .int .u64 a2_1, .int .u64 a2_2, .int .u64 a2_3] 33 (0, 0)) F3_ hb); have n3_ := Aside0.mk (below_step F7_ hb); clear BK101; clear BK102; clear BK103; clear HB; have BK101 := n0_; have BK102 := n1_; have BK103 := n2_; have HB := n3_; clear n0_ n1_ n2_ n3_; (try clear hb); (try clear hb2); (try clear hk); (try clear hi); have hcz65_0 : w64.cell? ⟨gb101, 0, none⟩ = some (.slice A0_0 l0_0.length c0_0) := (blk_cell BK101.out 0).trans rfl; have hcz65_1 : w64.cell? ⟨gb101, 1, none⟩ = some (.slice A0_1 l0_1.length c0_1) := (blk_cell BK101.out 1).trans rfl; have hcz65_2 : w64.cell? ⟨gb101, 2, none⟩ = some (.slice A0_2 l0_2.length c0_2) := (blk_cell BK101.out 2).trans rfl; have hfz65_0 := blk_frozen BK101.out 0; have hfz65_1 := blk_frozen BK101.out 1; have hfz65_2 := blk_frozen BK101.out 2; have hcz66_0 : w64.cell? ⟨gb102, 0, none⟩ = some (.slice A1_0 l1_0.length c1_0) := (blk_cell BK102.out 0).trans rfl; have hcz66_1 : w64.cell? ⟨gb102, 1, none⟩ = some (.int .i64 a1_1) := (blk_cell BK102.out 1).trans rfl; have hcz66_2 : w64.cell? ⟨gb102, 2, none⟩ = some (.int .i64 a1_2) := (blk_cell BK102.out 2).trans rfl; have hfz66_0 := blk_frozen BK102.out 0; have hfz66_1 := blk_frozen BK102.out 1; have hfz66_2 := blk_frozen BK102.out 2; have hcz67_0 : w64.cell? ⟨gb103, 0, none⟩ = some (.int .u64 a2_0) := (blk_cell BK103.out 0).trans rfl; have hcz67_1 : w64.cell? ⟨gb103, 1, none⟩ = some (.int .u64 a2_1) := (blk_cell BK103.out 1).trans rfl; have hcz67_2 : w64.cell? ⟨gb103, 2, none⟩ = some (.int .u64 a2_2) := (blk_cell BK103.out 2).trans rfl; have hcz67_3 : w64.cell? ⟨gb103, 3, none⟩ = some (.int .u64 a2_3) := (blk_cell BK103.out 3).trans rfl; have hfz67_0 := blk_frozen BK103.out 0; have hfz67_1 := blk_frozen BK103.out 1; have hfz67_2 := blk_frozen BK103.out 2; have hfz67_3 := blk_frozen BK103.out 3) | ((with_reducible refine gate_callee (f := 67) rfl ?_); refine goesL_ (some 30) rfl rfl Try.func67 (by kernel_rfl) rfl #[.agg #[.slice A0_0 l0_0.length c0_0, .slice A0_1 l0_1.length c0_1, .slice A0_2 l0_2.length c0_2], .agg #[.slice A1_0 l1_0.length c1_0, .int .i64 a1_1, .int .i64 a1_2], .agg #[.int .u64 a2_0, .int .u64 a2_1, .int .u64 a2_2, .int .u64 a2_3]] rfl F10_ ?_; (with_reducible refine (fit_Fits.calls k _ _ l0_0 _ _ l0_1 _ _ l0_2 _ _ l1_0 a1_1 a1_2 a2_0 a2_1 a2_2 a2_3 t106 _ ?side1 ?side2 ?side3 ?side4 ?side5 ?side6 ?side7 ?side8 A7.out).mono ?_); (case side1 => exact F11_); (case side2 => exact HC0_0.out); (case side3 => exact F12_); (case side4 => exact HC0_1.out); (case side5 => exact F13_); (case side6 => exact HC0_2.out); (case side7 => exact F14_); (case side8 => exact HC1_0.out); rintro e w68 ⟨v107, rfl, ho0, hb⟩; refine ⟨_, rfl, ?_⟩; have n0_ := Aside0.mk (Kd.R_lower ho0 (below_size F7_)); have n1_ := Aside0.mk (blk_below (g := gb101) (o := .cells #[.slice A0_0 l0_0.length c0_0, .slice A0_1 l0_1.length c0_1, .slice A0_2 l0_2.length c0_2] 96 (0, 0)) F1_ hb); have n2_ := Aside0.mk (blk_below (g := gb102) (o := .cells #[.slice A1_0 l1_0.length c1_0, .int .i64 a1_1, .int .i64 a1_2] 26 (0, 0)) F2_ hb); have n3_ := Aside0.mk (blk_below (g := gb103) (o := .cells #[.int .u64 a2_0, .int .u64 a2_1, .int .u64 a2_2, .int .u64 a2_3] 33 (0, 0)) F3_ hb); have n4_ := Aside0.mk (below_step F7_ hb); clear BK101; clear BK102; clear BK103; clear HB; have HO108 := n0_; have BK101 := n1_; have BK102 := n2_; have BK103 := n3_; have HB := n4_; clear n0_ n1_ n2_ n3_ n4_; (try clear hb); (try clear hb2); (try clear hk); (try clear hi); (try clear ho0); obtain ⟨Ao69, co69, eo69⟩ := Kd.R_slice HO108.out; subst eo69))
    go_ret
    exact ⟨F39_, F40_⟩
  ·rw [if_neg c8] at H
   have c8b0 : ((t106.length : Int) == 0) = false := beq_eq_false_iff_ne.mpr c8
   have c8b1 : ((t106.length : Int) != 0) = true := bne_iff_ne.mpr c8
   have c8b2 : ¬ (t106 = []) := fun h_ => c8 (by rw [h_]; rfl)
   replace H := Option.bind_eq_some_iff.mp H
   obtain ⟨t111, A700, H⟩ := H
   replace H : ((room_Rest.f k l0_0 l0_1 l0_2 l1_0 a1_1 a1_2 t111).bind fun bt112 => ((vec_Sub.f bt112.1 bt112.2.1 bt112.2.2.1 bt112.2.2.2.1 a2_0 a2_1 a2_2 a2_3).bind fun bt118 => (if bt112.2.2.2.2.isNone = true then (if bt118.2.2.2.2.isNone = true then ((fit_First.f k l0_0 l0_1 l0_2 l1_0 a1_1 a1_2 a2_0 a2_1 a2_2 a2_3).bind fun t126 => (if 0 < (t106.length : Int) then (dunnagelaw14_FitTight.j0 k t104 t106 (t126 != (rd t106 0)) l0_0 l0_1 l0_2 l1_0 a1_1 a1_2 a2_0 a2_1 a2_2 a2_3 bt118.1 bt118.2.1 bt118.2.2.1 bt118.2.2.2.1) else (none))) else (dunnagelaw14_FitTight.j0 k t104 t106 true l0_0 l0_1 l0_2 l1_0 a1_1 a1_2 a2_0 a2_1 a2_2 a2_3 bt118.1 bt118.2.1 bt118.2.2.1 bt118.2.2.2.1)) else (dunnagelaw14_FitTight.j0 k t104 t106 true l0_0 l0_1 l0_2 l1_0 a1_1 a1_2 a2_0 a2_1 a2_2 a2_3 bt118.1 bt118.2.1 bt118.2.2.1 bt118.2.2.2.1)))) = some r := H
   have A70 := Aside0.mk A700
   clear A700
   replace H := Option.bind_eq_some_iff.mp H
   obtain ⟨⟨t112, t113, t114, t115, t116⟩, A710, H⟩ := H
   replace H : ((vec_Sub.f t112 t113 t114 t115 a2_0 a2_1 a2_2 a2_3).bind fun bt118 => (if t116.isNone = true then (if bt118.2.2.2.2.isNone = true then ((fit_First.f k l0_0 l0_1 l0_2 l1_0 a1_1 a1_2 a2_0 a2_1 a2_2 a2_3).bind fun t126 => (if 0 < (t106.length : Int) then (dunnagelaw14_FitTight.j0 k t104 t106 (t126 != (rd t106 0)) l0_0 l0_1 l0_2 l1_0 a1_1 a1_2 a2_0 a2_1 a2_2 a2_3 bt118.1 bt118.2.1 bt118.2.2.1 bt118.2.2.2.1) else (none))) else (dunnagelaw14_FitTight.j0 k t104 t106 true l0_0 l0_1 l0_2 l1_0 a1_1 a1_2 a2_0 a2_1 a2_2 a2_3 bt118.1 bt118.2.1 bt118.2.2.1 bt118.2.2.2.1)) else (dunnagelaw14_FitTight.j0 k t104 t106 true l0_0 l0_1 l0_2 l1_0 a1_1 a1_2 a2_0 a2_1 a2_2 a2_3 bt118.1 bt118.2.1 bt118.2.2.1 bt118.2.2.2.1))) = some r := H
   have A71 := Aside0.mk A710
   clear A710
   replace H := Option.bind_eq_some_iff.mp H
   obtain ⟨⟨t118, t119, t120, t121, t122⟩, A720, H⟩ := H
   replace H : (if t116.isNone = true then (if t122.isNone = true then ((fit_First.f k l0_0 l0_1 l0_2 l1_0 a1_1 a1_2 a2_0 a2_1 a2_2 a2_3).bind fun t126 => (if 0 < (t106.length : Int) then (dunnagelaw14_FitTight.j0 k t104 t106 (t126 != (rd t106 0)) l0_0 l0_1 l0_2 l1_0 a1_1 a1_2 a2_0 a2_1 a2_2 a2_3 t118 t119 t120 t121) else (none))) else (dunnagelaw14_FitTight.j0 k t104 t106 true l0_0 l0_1 l0_2 l1_0 a1_1 a1_2 a2_0 a2_1 a2_2 a2_3 t118 t119 t120 t121)) else (dunnagelaw14_FitTight.j0 k t104 t106 true l0_0 l0_1 l0_2 l1_0 a1_1 a1_2 a2_0 a2_1 a2_2 a2_3 t118 t119 t120 t121)) = some r := H
   have A72 := Aside0.mk A720
   clear A720
   have HC73 := Aside0.mk H
   clear H
   go_enter Try.func17, Try.ntmps17
   try go_wp2_with (first | ((with_reducible refine gate_dst (N := 3) rfl ?_); refine box_event ?hg (N := 3) ?hd (cs := #[.slice A0_0 l0_0.length c0_0, .slice A0_1 l0_1.length c0_1, .slice A0_2 l0_2.length c0_2]) (t := 96) ?hr ?_; (case hd => rfl); (case hg => rfl); (case hr => first | (go_simp; done) | (go_simp; rfl)); intro gb101 hg w74 hbox hb; have n0_ := Aside0.mk (below_step F27_ hb); have n1_ := Aside0.mk (hbox); have n2_ := Aside0.mk ((by rw [hg]; exact (below_size F27_) : w.heap.size ≤ gb101)); have n3_ := Aside0.mk ((by rw [hg]; exact (below_size F27_) : w.heap.size ≤ gb101)); clear HB; have HB := n0_; have BK101 := n1_; have GW101 := n2_; have GE101 := n3_; clear n0_ n1_ n2_ n3_; clear hb hbox hg) | ((with_reducible refine gate_dst (N := 4) rfl ?_); refine box_event ?hg (N := 4) ?hd (cs := #[.slice A1_0 l1_0.length c1_0, .int .i64 a1_1, .int .i64 a1_2]) (t := 26) ?hr ?_; (case hd => rfl); (case hg => rfl); (case hr => first | (go_simp; done) | (go_simp; rfl)); intro gb102 hg w75 hbox hb; have n0_ := Aside0.mk (blk_below (g := gb101) (o := .cells #[.slice A0_0 l0_0.length c0_0, .slice A0_1 l0_1.length c0_1, .slice A0_2 l0_2.length c0_2] 96 (0, 0)) F1_ hb); have n1_ := Aside0.mk (below_step F20_ hb); have n2_ := Aside0.mk (hbox); have n3_ := Aside0.mk ((by rw [hg]; exact (below_size F20_) : w.heap.size ≤ gb102)); have n4_ := Aside0.mk ((by rw [hg]; exact (below_size F20_) : w.heap.size ≤ gb102)); have n5_ := Aside0.mk ((by rw [hg]; exact Nat.ne_of_lt (blk_lt (g := gb101) (o := .cells #[.slice A0_0 l0_0.length c0_0, .slice A0_1 l0_1.length c0_1, .slice A0_2 l0_2.length c0_2] 96 (0, 0)) F1_) : gb101 ≠ gb102)); have n6_ := Aside0.mk ((by rw [hg]; exact Nat.ne_of_gt (blk_lt (g := gb101) (o := .cells #[.slice A0_0 l0_0.length c0_0, .slice A0_1 l0_1.length c0_1, .slice A0_2 l0_2.length c0_2] 96 (0, 0)) F1_) : gb102 ≠ gb101)); clear BK101; clear HB; have BK101 := n0_; have HB := n1_; have BK102 := n2_; have GW102 := n3_; have GE102 := n4_; have NB101_102 := n5_; have NB102_101 := n6_; clear n0_ n1_ n2_ n3_ n4_ n5_ n6_; clear hb hbox hg) | ((with_reducible refine gate_dst (N := 5) rfl ?_); refine box_event ?hg (N := 5) ?hd (cs := #[.int .u64 a2_0, .int .u64 a2_1, .int .u64 a2_2, .int .u64 a2_3]) (t := 33) ?hr ?_; (case hd => rfl); (case hg => rfl); (case hr => first | (go_simp; done) | (go_simp; rfl)); intro gb103 hg w76 hbox hb; have n0_ := Aside0.mk (blk_below (g := gb101) (o := .cells #[.slice A0_0 l0_0.length c0_0, .slice A0_1 l0_1.length c0_1, .slice A0_2 l0_2.length c0_2] 96 (0, 0)) F1_ hb); have n1_ := Aside0.mk (blk_below (g := gb102) (o := .cells #[.slice A1_0 l1_0.length c1_0, .int .i64 a1_1, .int .i64 a1_2] 26 (0, 0)) F2_ hb); have n2_ := Aside0.mk (below_step F16_ hb); have n3_ := Aside0.mk (hbox); have n4_ := Aside0.mk ((by rw [hg]; exact (below_size F16_) : w.heap.size ≤ gb103)); have n5_ := Aside0.mk ((by rw [hg]; exact (below_size F16_) : w.heap.size ≤ gb103)); have n6_ := Aside0.mk ((by rw [hg]; exact Nat.ne_of_lt (blk_lt (g := gb101) (o := .cells #[.slice A0_0 l0_0.length c0_0, .slice A0_1 l0_1.length c0_1, .slice A0_2 l0_2.length c0_2] 96 (0, 0)) F1_) : gb101 ≠ gb103)); have n7_ := Aside0.mk ((by rw [hg]; exact Nat.ne_of_gt (blk_lt (g := gb101) (o := .cells #[.slice A0_0 l0_0.length c0_0, .slice A0_1 l0_1.length c0_1, .slice A0_2 l0_2.length c0_2] 96 (0, 0)) F1_) : gb103 ≠ gb101)); have n8_ := Aside0.mk ((by rw [hg]; exact Nat.ne_of_lt (blk_lt (g := gb102) (o := .cells #[.slice A1_0 l1_0.length c1_0, .int .i64 a1_1, .int .i64 a1_2] 26 (0, 0)) F2_) : gb102 ≠ gb103)); have n9_ := Aside0.mk ((by rw [hg]; exact Nat.ne_of_gt (blk_lt (g := gb102) (o := .cells #[.slice A1_0 l1_0.length c1_0, .int .i64 a1_1, .int .i64 a1_2] 26 (0, 0)) F2_) : gb103 ≠ gb102)); clear BK101; clear BK102; clear HB; have BK101 := n0_; have BK102 := n1_; have HB := n2_; have BK103 := n3_; have GW103 := n4_; have GE103 := n5_; have NB101_103 := n6_; have NB103_101 := n7_; have NB102_103 := n8_; have NB103_102 := n9_; clear n0_ n1_ n2_ n3_ n4_ n5_ n6_ n7_ n8_ n9_; clear hb hbox hg) | ((with_reducible refine gate_callee (f := 63) rfl ?_); refine goesL_ (some 19) rfl rfl Try.func63 (by kernel_rfl) rfl #[] rfl F10_ ?_; (with_reducible refine (dunnagelaw14_up.calls k  t104 _ A4.out).mono ?_); rintro e w77 ⟨rfl, hb⟩; refine ⟨_, rfl, ?_⟩; have n0_ := Aside0.mk (blk_below (g := gb101) (o := .cells #[.slice A0_0 l0_0.length c0_0, .slice A0_1 l0_1.length c0_1, .slice A0_2 l0_2.length c0_2] 96 (0, 0)) F1_ hb); have n1_ := Aside0.mk (blk_below (g := gb102) (o := .cells #[.slice A1_0 l1_0.length c1_0, .int .i64 a1_1, .int .i64 a1_2] 26 (0, 0)) F2_ hb); have n2_ := Aside0.mk (blk_below (g := gb103) (o := .cells #[.int .u64 a2_0, .int .u64 a2_1, .int .u64 a2_2, .int .u64 a2_3] 33 (0, 0)) F3_ hb); have n3_ := Aside0.mk (below_step F7_ hb); clear BK101; clear BK102; clear BK103; clear HB; have BK101 := n0_; have BK102 := n1_; have BK103 := n2_; have HB := n3_; clear n0_ n1_ n2_ n3_; (try clear hb); (try clear hb2); (try clear hk); (try clear hi); have hnb78 := NB101_102.out; have hnc78 := NB102_101.out; have hnb79 := NB101_103.out; have hnc79 := NB103_101.out; have hcz80_0 : w77.cell? ⟨gb101, 0, none⟩ = some (.slice A0_0 l0_0.length c0_0) := (blk_cell BK101.out 0).trans rfl; have hcz80_1 : w77.cell? ⟨gb101, 1, none⟩ = some (.slice A0_1 l0_1.length c0_1) := (blk_cell BK101.out 1).trans rfl; have hcz80_2 : w77.cell? ⟨gb101, 2, none⟩ = some (.slice A0_2 l0_2.length c0_2) := (blk_cell BK101.out 2).trans rfl; have hfz80_0 := blk_frozen BK101.out 0; have hfz80_1 := blk_frozen BK101.out 1; have hfz80_2 := blk_frozen BK101.out 2; have hnb81 := NB102_103.out; have hnc81 := NB103_102.out; have hcz82_0 : w77.cell? ⟨gb102, 0, none⟩ = some (.slice A1_0 l1_0.length c1_0) := (blk_cell BK102.out 0).trans rfl; have hcz82_1 : w77.cell? ⟨gb102, 1, none⟩ = some (.int .i64 a1_1) := (blk_cell BK102.out 1).trans rfl; have hcz82_2 : w77.cell? ⟨gb102, 2, none⟩ = some (.int .i64 a1_2) := (blk_cell BK102.out 2).trans rfl; have hfz82_0 := blk_frozen BK102.out 0; have hfz82_1 := blk_frozen BK102.out 1; have hfz82_2 := blk_frozen BK102.out 2) | ((with_reducible refine gate_callee (f := 60) rfl ?_); refine goesL_ (some 23) rfl rfl Try.func60 (by kernel_rfl) rfl #[.agg #[.slice A0_0 l0_0.length c0_0, .slice A0_1 l0_1.length c0_1, .slice A0_2 l0_2.length c0_2], .agg #[.slice none 0 0, .int .i64 0, .int .i64 0], .agg #[.slice A1_0 l1_0.length c1_0, .int .i64 a1_1, .int .i64 a1_2]] rfl F10_ ?_; (refine (dunnageref05_Few.calls _ _ l0_0 _ _ l0_1 _ _ l0_2 _ _ ([] : List (S185)) 0 0 _ _ l1_0 a1_1 a1_2 true _ ?side1 ?side2 ?side3 ?side4 ?side5 ?side6 ?side7 ?side8 ?side9 ?side10 A5.out).mono ?_); (case side1 => exact F11_); (case side2 => exact HC0_0.out); (case side3 => exact F12_); (case side4 => exact HC0_1.out); (case side5 => exact F13_); (case side6 => exact HC0_2.out); (case side7 => exact Kd.C_nil _ _); (case side8 => exact Nat.le_refl _); (case side9 => exact F14_); (case side10 => exact HC1_0.out); rintro e w83 ⟨rfl, hb⟩; refine ⟨_, rfl, ?_⟩; have n0_ := Aside0.mk (blk_below (g := gb101) (o := .cells #[.slice A0_0 l0_0.length c0_0, .slice A0_1 l0_1.length c0_1, .slice A0_2 l0_2.length c0_2] 96 (0, 0)) F1_ hb); have n1_ := Aside0.mk (blk_below (g := gb102) (o := .cells #[.slice A1_0 l1_0.length c1_0, .int .i64 a1_1, .int .i64 a1_2] 26 (0, 0)) F2_ hb); have n2_ := Aside0.mk (blk_below (g := gb103) (o := .cells #[.int .u64 a2_0, .int .u64 a2_1, .int .u64 a2_2, .int .u64 a2_3] 33 (0, 0)) F3_ hb); have n3_ := Aside0.mk (below_step F7_ hb); clear BK101; clear BK102; clear BK103; clear HB; have BK101 := n0_; have BK102 := n1_; have BK103 := n2_; have HB := n3_; clear n0_ n1_ n2_ n3_; (try clear hb); (try clear hb2); (try clear hk); (try clear hi); have hcz84_0 : w83.cell? ⟨gb101, 0, none⟩ = some (.slice A0_0 l0_0.length c0_0) := (blk_cell BK101.out 0).trans rfl; have hcz84_1 : w83.cell? ⟨gb101, 1, none⟩ = some (.slice A0_1 l0_1.length c0_1) := (blk_cell BK101.out 1).trans rfl; have hcz84_2 : w83.cell? ⟨gb101, 2, none⟩ = some (.slice A0_2 l0_2.length c0_2) := (blk_cell BK101.out 2).trans rfl; have hfz84_0 := blk_frozen BK101.out 0; have hfz84_1 := blk_frozen BK101.out 1; have hfz84_2 := blk_frozen BK101.out 2; have hcz85_0 : w83.cell? ⟨gb102, 0, none⟩ = some (.slice A1_0 l1_0.length c1_0) := (blk_cell BK102.out 0).trans rfl; have hcz85_1 : w83.cell? ⟨gb102, 1, none⟩ = some (.int .i64 a1_1) := (blk_cell BK102.out 1).trans rfl; have hcz85_2 : w83.cell? ⟨gb102, 2, none⟩ = some (.int .i64 a1_2) := (blk_cell BK102.out 2).trans rfl; have hfz85_0 := blk_frozen BK102.out 0; have hfz85_1 := blk_frozen BK102.out 1; have hfz85_2 := blk_frozen BK102.out 2; have hcz86_0 : w83.cell? ⟨gb103, 0, none⟩ = some (.int .u64 a2_0) := (blk_cell BK103.out 0).trans rfl; have hcz86_1 : w83.cell? ⟨gb103, 1, none⟩ = some (.int .u64 a2_1) := (blk_cell BK103.out 1).trans rfl; have hcz86_2 : w83.cell? ⟨gb103, 2, none⟩ = some (.int .u64 a2_2) := (blk_cell BK103.out 2).trans rfl; have hcz86_3 : w83.cell? ⟨gb103, 3, none⟩ = some (.int .u64 a2_3) := (blk_cell BK103.out 3).trans rfl; have hfz86_0 := blk_frozen BK103.out 0; have hfz86_1 := blk_frozen BK103.out 1; have hfz86_2 := blk_frozen BK103.out 2; have hfz86_3 := blk_frozen BK103.out 3) | ((with_reducible refine gate_callee (f := 67) rfl ?_); refine goesL_ (some 30) rfl rfl Try.func67 (by kernel_rfl) rfl #[.agg #[.slice A0_0 l0_0.length c0_0, .slice A0_1 l0_1.length c0_1, .slice A0_2 l0_2.length c0_2], .agg #[.slice A1_0 l1_0.length c1_0, .int .i64 a1_1, .int .i64 a1_2], .agg #[.int .u64 a2_0, .int .u64 a2_1, .int .u64 a2_2, .int .u64 a2_3]] rfl F10_ ?_; (with_reducible refine (fit_Fits.calls k _ _ l0_0 _ _ l0_1 _ _ l0_2 _ _ l1_0 a1_1 a1_2 a2_0 a2_1 a2_2 a2_3 t106 _ ?side1 ?side2 ?side3 ?side4 ?side5 ?side6 ?side7 ?side8 A7.out).mono ?_); (case side1 => exact F11_); (case side2 => exact HC0_0.out); (case side3 => exact F12_); (case side4 => exact HC0_1.out); (case side5 => exact F13_); (case side6 => exact HC0_2.out); (case side7 => exact F14_); (case side8 => exact HC1_0.out); rintro e w87 ⟨v107, rfl, ho0, hb⟩; refine ⟨_, rfl, ?_⟩; have n0_ := Aside0.mk (Kd.R_lower ho0 (below_size F7_)); have n1_ := Aside0.mk (blk_below (g := gb101) (o := .cells #[.slice A0_0 l0_0.length c0_0, .slice A0_1 l0_1.length c0_1, .slice A0_2 l0_2.length c0_2] 96 (0, 0)) F1_ hb); have n2_ := Aside0.mk (blk_below (g := gb102) (o := .cells #[.slice A1_0 l1_0.length c1_0, .int .i64 a1_1, .int .i64 a1_2] 26 (0, 0)) F2_ hb); have n3_ := Aside0.mk (blk_below (g := gb103) (o := .cells #[.int .u64 a2_0, .int .u64 a2_1, .int .u64 a2_2, .int .u64 a2_3] 33 (0, 0)) F3_ hb); have n4_ := Aside0.mk (below_step F7_ hb); clear BK101; clear BK102; clear BK103; clear HB; have HO108 := n0_; have BK101 := n1_; have BK102 := n2_; have BK103 := n3_; have HB := n4_; clear n0_ n1_ n2_ n3_ n4_; (try clear hb); (try clear hb2); (try clear hk); (try clear hi); (try clear ho0); obtain ⟨Ao88, co88, eo88⟩ := Kd.R_slice HO108.out; subst eo88))
   have n0_ := Aside0.mk (Kd.R_drew HO108.out)
   have n1_ := Aside0.mk (blk_drew BK101.out)
   have n2_ := Aside0.mk (blk_drew BK102.out)
   have n3_ := Aside0.mk (blk_drew BK103.out)
   have n4_ := Aside0.mk (below_drew1 HB.out)
   clear HO108
   clear BK101
   clear BK102
   clear BK103
   clear HB
   have HO108 := n0_
   have BK101 := n1_
   have BK102 := n2_
   have BK103 := n3_
   have HB := n4_
   clear n0_ n1_ n2_ n3_ n4_
   refine start_ (n := 13) (S := fun w' => w'.cell? ⟨gb101, 0, none⟩ = some (.slice A0_0 l0_0.length c0_0) ∧ w'.cell? ⟨gb101, 1, none⟩ = some (.slice A0_1 l0_1.length c0_1) ∧ w'.cell? ⟨gb101, 2, none⟩ = some (.slice A0_2 l0_2.length c0_2) ∧ w'.cell? ⟨gb102, 0, none⟩ = some (.slice A1_0 l1_0.length c1_0) ∧ w'.cell? ⟨gb102, 1, none⟩ = some (.int .i64 a1_1) ∧ w'.cell? ⟨gb102, 2, none⟩ = some (.int .i64 a1_2) ∧ w'.cell? ⟨gb103, 0, none⟩ = some (.int .u64 a2_0) ∧ w'.cell? ⟨gb103, 1, none⟩ = some (.int .u64 a2_1) ∧ w'.cell? ⟨gb103, 2, none⟩ = some (.int .u64 a2_2) ∧ w'.cell? ⟨gb103, 3, none⟩ = some (.int .u64 a2_3)) (ds := []) #[false, false, false, false, false, false, false, false, false, false, false, false, false] (by kernel_rfl) rfl rfl ⟨(blk_cell BK101.out 0).trans rfl, (blk_cell BK101.out 1).trans rfl, (blk_cell BK101.out 2).trans rfl, (blk_cell BK102.out 0).trans rfl, (blk_cell BK102.out 1).trans rfl, (blk_cell BK102.out 2).trans rfl, (blk_cell BK103.out 0).trans rfl, (blk_cell BK103.out 1).trans rfl, (blk_cell BK103.out 2).trans rfl, (blk_cell BK103.out 3).trans rfl⟩ (fun hHeld => ?_); refine with_tabW dunnagelaw14_FitTight.tab8 dunnagelaw14_FitTight.bits8 (fun HT_ HW_ => ?_)
   generalize w87.drew = w89 at HO108 BK101 BK102 BK103 HB hHeld ⊢
   refine take_ (i := 0) (N := some 50) (v := ?_) (a' := ?_) #[true, false, false, false, false, false, false, false, false, false, false, false, false] rfl rfl (take_ofW HT_.out HW_.out (by kernel_rfl)) (fun _ _ _ h => h) (Or.inl ⟨by rfl, ?_⟩) hHeld ?_ ?_
   rotate_left
   ·rintro w' ⟨s0, s1, s2, s3, s4, s5, s6, s7, s8, s9⟩
    go_simp
    with_reducible rfl
   rotate_left
   ·simp only [Act.put, List.setIfInBounds_toArray, List.set_cons_zero, List.set_cons_succ, i64_w, i32_w]
    rfl
   refine take_ (i := 1) (N := some 51) (v := ?_) (a' := ?_) #[true, true, false, false, false, false, false, false, false, false, false, false, false] rfl rfl (take_ofW HT_.out HW_.out (by kernel_rfl)) (fun _ _ _ h => h) (Or.inl ⟨by rfl, ?_⟩) hHeld ?_ ?_
   rotate_left
   ·rintro w' ⟨s0, s1, s2, s3, s4, s5, s6, s7, s8, s9⟩
    go_simp
    with_reducible rfl
   rotate_left
   ·simp only [Act.put, List.setIfInBounds_toArray, List.set_cons_zero, List.set_cons_succ, i64_w, i32_w]
    rfl
   refine take_ (i := 2) (N := some 52) (v := ?_) (a' := ?_) #[true, true, true, false, false, false, false, false, false, false, false, false, false] rfl rfl (take_ofW HT_.out HW_.out (by kernel_rfl)) (fun _ _ _ h => h) (Or.inl ⟨by rfl, ?_⟩) hHeld ?_ ?_
   rotate_left
   ·rintro w' ⟨s0, s1, s2, s3, s4, s5, s6, s7, s8, s9⟩
    go_simp
    with_reducible rfl
   rotate_left
   ·simp only [Act.put, List.setIfInBounds_toArray, List.set_cons_zero, List.set_cons_succ, i64_w, i32_w]
    rfl
   refine take_ (i := 3) (N := some 53) (v := ?_) (a' := ?_) #[true, true, true, true, false, false, false, false, false, false, false, false, false] rfl rfl (take_ofW HT_.out HW_.out (by kernel_rfl)) (fun _ _ _ h => h) (Or.inl ⟨by rfl, ?_⟩) hHeld ?_ ?_
   rotate_left
   ·rintro w' ⟨s0, s1, s2, s3, s4, s5, s6, s7, s8, s9⟩
    go_simp
    with_reducible rfl
   rotate_left
   ·simp only [Act.put, List.setIfInBounds_toArray, List.set_cons_zero, List.set_cons_succ, i64_w, i32_w]
    rfl
   refine take_ (i := 4) (N := some 54) (v := ?_) (a' := ?_) #[true, true, true, true, true, false, false, false, false, false, false, false, false] rfl rfl (take_ofW HT_.out HW_.out (by kernel_rfl)) (fun _ _ _ h => h) (Or.inl ⟨by rfl, ?_⟩) hHeld ?_ ?_
   rotate_left
   ·rintro w' ⟨s0, s1, s2, s3, s4, s5, s6, s7, s8, s9⟩
    go_simp
    with_reducible rfl
   rotate_left
   ·simp only [Act.put, List.setIfInBounds_toArray, List.set_cons_zero, List.set_cons_succ, i64_w, i32_w]
    rfl
   refine join_ (σ := Nat) 2 #[true, true, true, true, true, true, true, true, true, true, true, false, false] (fun s_ => [(55, .int .i64 t111), (56, .tuple #[.agg #[.int .u64 t112, .int .u64 t113, .int .u64 t114, .int .u64 t115], errW t116]), (10, .pointer (some ⟨s_, 0, none⟩)), (49, .tuple #[.agg #[.int .u64 t112, .int .u64 t113, .int .u64 t114, .int .u64 t115], errW t116]), (57, .agg #[.int .u64 t112, .int .u64 t113, .int .u64 t114, .int .u64 t115]), (58, errW t116)]) (fun s_ w' => (w'.cell? ⟨gb101, 0, none⟩ = some (.slice A0_0 l0_0.length c0_0) ∧ w'.cell? ⟨gb101, 1, none⟩ = some (.slice A0_1 l0_1.length c0_1) ∧ w'.cell? ⟨gb101, 2, none⟩ = some (.slice A0_2 l0_2.length c0_2) ∧ w'.cell? ⟨gb102, 0, none⟩ = some (.slice A1_0 l1_0.length c1_0) ∧ w'.cell? ⟨gb102, 1, none⟩ = some (.int .i64 a1_1) ∧ w'.cell? ⟨gb102, 2, none⟩ = some (.int .i64 a1_2) ∧ w'.cell? ⟨gb103, 0, none⟩ = some (.int .u64 a2_0) ∧ w'.cell? ⟨gb103, 1, none⟩ = some (.int .u64 a2_1) ∧ w'.cell? ⟨gb103, 2, none⟩ = some (.int .u64 a2_2) ∧ w'.cell? ⟨gb103, 3, none⟩ = some (.int .u64 a2_3)) ∧ (Kd.R (Kd.int .i64) 3 w' w.heap.size (fun _ => True) (.slice Ao88 t106.length co88) t106) ∧ (w'.heap[gb101]? = some (.cells #[.slice A0_0 l0_0.length c0_0, .slice A0_1 l0_1.length c0_1, .slice A0_2 l0_2.length c0_2] 96 (0, 0))) ∧ (w'.heap[gb102]? = some (.cells #[.slice A1_0 l1_0.length c1_0, .int .i64 a1_1, .int .i64 a1_2] 26 (0, 0))) ∧ (w'.heap[gb103]? = some (.cells #[.int .u64 a2_0, .int .u64 a2_1, .int .u64 a2_2, .int .u64 a2_3] 33 (0, 0))) ∧ (w'.heap[s_]? = some (.cells #[.int .u64 0, .int .u64 0, .int .u64 0, .int .u64 0] 33 (0, 0))) ∧ (w.heap.size ≤ s_) ∧ (w.heap.size ≤ s_) ∧ (gb101 ≠ s_) ∧ (s_ ≠ gb101) ∧ (gb102 ≠ s_) ∧ (s_ ≠ gb102) ∧ (gb103 ≠ s_) ∧ (s_ ≠ gb103) ∧ (Below w.heap.size w w')) ?_ ?_
   rotate_left
   ·exact L2_
   rintro gb117 w93 ⟨hS_, h0_, h1_, h2_, h3_, h4_, h5_, h6_, h7_, h8_, h9_, h10_, h11_, h12_, h13_⟩
   have n0_ : Aside0 (Kd.R (Kd.int .i64) 3 w93 w.heap.size (fun _ => True) (.slice Ao88 t106.length co88) t106) := ⟨h0_⟩
   have n1_ : Aside0 (w93.heap[gb101]? = some (.cells #[.slice A0_0 l0_0.length c0_0, .slice A0_1 l0_1.length c0_1, .slice A0_2 l0_2.length c0_2] 96 (0, 0))) := ⟨h1_⟩
   have n2_ : Aside0 (w93.heap[gb102]? = some (.cells #[.slice A1_0 l1_0.length c1_0, .int .i64 a1_1, .int .i64 a1_2] 26 (0, 0))) := ⟨h2_⟩
   have n3_ : Aside0 (w93.heap[gb103]? = some (.cells #[.int .u64 a2_0, .int .u64 a2_1, .int .u64 a2_2, .int .u64 a2_3] 33 (0, 0))) := ⟨h3_⟩
   have n4_ : Aside0 (w93.heap[gb117]? = some (.cells #[.int .u64 0, .int .u64 0, .int .u64 0, .int .u64 0] 33 (0, 0))) := ⟨h4_⟩
   have n5_ : Aside0 (w.heap.size ≤ gb117) := ⟨h5_⟩
   have n6_ : Aside0 (w.heap.size ≤ gb117) := ⟨h6_⟩
   have n7_ : Aside0 (gb101 ≠ gb117) := ⟨h7_⟩
   have n8_ : Aside0 (gb117 ≠ gb101) := ⟨h8_⟩
   have n9_ : Aside0 (gb102 ≠ gb117) := ⟨h9_⟩
   have n10_ : Aside0 (gb117 ≠ gb102) := ⟨h10_⟩
   have n11_ : Aside0 (gb103 ≠ gb117) := ⟨h11_⟩
   have n12_ : Aside0 (gb117 ≠ gb103) := ⟨h12_⟩
   have n13_ : Aside0 (Below w.heap.size w w93) := ⟨h13_⟩
   clear HO108
   clear BK101
   clear BK102
   clear BK103
   clear HB
   clear h0_ h1_ h2_ h3_ h4_ h5_ h6_ h7_ h8_ h9_ h10_ h11_ h12_ h13_
   have HO108 := n0_
   have BK101 := n1_
   have BK102 := n2_
   have BK103 := n3_
   have BK117 := n4_
   have GW117 := n5_
   have GE117 := n6_
   have NB101_117 := n7_
   have NB117_101 := n8_
   have NB102_117 := n9_
   have NB117_102 := n10_
   have NB103_117 := n11_
   have NB117_103 := n12_
   have HB := n13_
   clear n0_ n1_ n2_ n3_ n4_ n5_ n6_ n7_ n8_ n9_ n10_ n11_ n12_ n13_
   have hHeld : w93.cell? ⟨gb101, 0, none⟩ = some (.slice A0_0 l0_0.length c0_0) ∧ w93.cell? ⟨gb101, 1, none⟩ = some (.slice A0_1 l0_1.length c0_1) ∧ w93.cell? ⟨gb101, 2, none⟩ = some (.slice A0_2 l0_2.length c0_2) ∧ w93.cell? ⟨gb102, 0, none⟩ = some (.slice A1_0 l1_0.length c1_0) ∧ w93.cell? ⟨gb102, 1, none⟩ = some (.int .i64 a1_1) ∧ w93.cell? ⟨gb102, 2, none⟩ = some (.int .i64 a1_2) ∧ w93.cell? ⟨gb103, 0, none⟩ = some (.int .u64 a2_0) ∧ w93.cell? ⟨gb103, 1, none⟩ = some (.int .u64 a2_1) ∧ w93.cell? ⟨gb103, 2, none⟩ = some (.int .u64 a2_2) ∧ w93.cell? ⟨gb103, 3, none⟩ = some (.int .u64 a2_3) := hS_
   refine norm_ (a' := ?_) ?_ ?_
   rotate_left
   ·simp only [putAll, Act.put, List.setIfInBounds_toArray, List.set_cons_zero, List.set_cons_succ]
    rfl
   refine one_ (i := 11) (N := none) #[true, true, true, true, true, true, true, true, true, true, true, true, false] rfl rfl (one_of HT_.out (by kernel_rfl)) (by decide) (fun K hK => ?_)
   have hs94 : w93.cell? ⟨gb117, 0, none⟩ = some (.int .u64 0) := (blk_cell BK117.out 0).trans rfl
   have hfs94 := blk_frozen BK117.out 0
   have hns94_0 := NB101_117.out
   have hns94_1 := NB102_117.out
   have hns94_2 := NB103_117.out
   have hms94_0 := NB117_101.out
   have hms94_1 := NB117_102.out
   have hms94_2 := NB117_103.out
   have hs95 : w93.cell? ⟨gb117, 1, none⟩ = some (.int .u64 0) := (blk_cell BK117.out 1).trans rfl
   have hfs95 := blk_frozen BK117.out 1
   have hns95_0 := NB101_117.out
   have hns95_1 := NB102_117.out
   have hns95_2 := NB103_117.out
   have hms95_0 := NB117_101.out
   have hms95_1 := NB117_102.out
   have hms95_2 := NB117_103.out
   have hs96 : w93.cell? ⟨gb117, 2, none⟩ = some (.int .u64 0) := (blk_cell BK117.out 2).trans rfl
   have hfs96 := blk_frozen BK117.out 2
   have hns96_0 := NB101_117.out
   have hns96_1 := NB102_117.out
   have hns96_2 := NB103_117.out
   have hms96_0 := NB117_101.out
   have hms96_1 := NB117_102.out
   have hms96_2 := NB117_103.out
   have hs97 : w93.cell? ⟨gb117, 3, none⟩ = some (.int .u64 0) := (blk_cell BK117.out 3).trans rfl
   have hfs97 := blk_frozen BK117.out 3
   have hns97_0 := NB101_117.out
   have hns97_1 := NB102_117.out
   have hns97_2 := NB103_117.out
   have hms97_0 := NB117_101.out
   have hms97_1 := NB117_102.out
   have hms97_2 := NB117_103.out
   refine skip_ (w1 := ?_) (by rfl) rfl ?_ ?_
   rotate_left
   ·go_simp
    rfl
   refine hK.out _ _ ⟨((cell_far (p := ⟨gb117, _, none⟩) NB101_117.out _).trans (((cell_far (p := ⟨gb117, _, none⟩) NB101_117.out _).trans (((cell_far (p := ⟨gb117, _, none⟩) NB101_117.out _).trans (((cell_far (p := ⟨gb117, _, none⟩) NB101_117.out _).trans (hHeld.1)))))))), ((cell_far (p := ⟨gb117, _, none⟩) NB101_117.out _).trans (((cell_far (p := ⟨gb117, _, none⟩) NB101_117.out _).trans (((cell_far (p := ⟨gb117, _, none⟩) NB101_117.out _).trans (((cell_far (p := ⟨gb117, _, none⟩) NB101_117.out _).trans (hHeld.2.1)))))))), ((cell_far (p := ⟨gb117, _, none⟩) NB101_117.out _).trans (((cell_far (p := ⟨gb117, _, none⟩) NB101_117.out _).trans (((cell_far (p := ⟨gb117, _, none⟩) NB101_117.out _).trans (((cell_far (p := ⟨gb117, _, none⟩) NB101_117.out _).trans (hHeld.2.2.1)))))))), ((cell_far (p := ⟨gb117, _, none⟩) NB102_117.out _).trans (((cell_far (p := ⟨gb117, _, none⟩) NB102_117.out _).trans (((cell_far (p := ⟨gb117, _, none⟩) NB102_117.out _).trans (((cell_far (p := ⟨gb117, _, none⟩) NB102_117.out _).trans (hHeld.2.2.2.1)))))))), ((cell_far (p := ⟨gb117, _, none⟩) NB102_117.out _).trans (((cell_far (p := ⟨gb117, _, none⟩) NB102_117.out _).trans (((cell_far (p := ⟨gb117, _, none⟩) NB102_117.out _).trans (((cell_far (p := ⟨gb117, _, none⟩) NB102_117.out _).trans (hHeld.2.2.2.2.1)))))))), ((cell_far (p := ⟨gb117, _, none⟩) NB102_117.out _).trans (((cell_far (p := ⟨gb117, _, none⟩) NB102_117.out _).trans (((cell_far (p := ⟨gb117, _, none⟩) NB102_117.out _).trans (((cell_far (p := ⟨gb117, _, none⟩) NB102_117.out _).trans (hHeld.2.2.2.2.2.1)))))))), ((cell_far (p := ⟨gb117, _, none⟩) NB103_117.out _).trans (((cell_far (p := ⟨gb117, _, none⟩) NB103_117.out _).trans (((cell_far (p := ⟨gb117, _, none⟩) NB103_117.out _).trans (((cell_far (p := ⟨gb117, _, none⟩) NB103_117.out _).trans (hHeld.2.2.2.2.2.2.1)))))))), ((cell_far (p := ⟨gb117, _, none⟩) NB103_117.out _).trans (((cell_far (p := ⟨gb117, _, none⟩) NB103_117.out _).trans (((cell_far (p := ⟨gb117, _, none⟩) NB103_117.out _).trans (((cell_far (p := ⟨gb117, _, none⟩) NB103_117.out _).trans (hHeld.2.2.2.2.2.2.2.1)))))))), ((cell_far (p := ⟨gb117, _, none⟩) NB103_117.out _).trans (((cell_far (p := ⟨gb117, _, none⟩) NB103_117.out _).trans (((cell_far (p := ⟨gb117, _, none⟩) NB103_117.out _).trans (((cell_far (p := ⟨gb117, _, none⟩) NB103_117.out _).trans (hHeld.2.2.2.2.2.2.2.2.1)))))))), ((cell_far (p := ⟨gb117, _, none⟩) NB103_117.out _).trans (((cell_far (p := ⟨gb117, _, none⟩) NB103_117.out _).trans (((cell_far (p := ⟨gb117, _, none⟩) NB103_117.out _).trans (((cell_far (p := ⟨gb117, _, none⟩) NB103_117.out _).trans (hHeld.2.2.2.2.2.2.2.2.2))))))))⟩ (fun hHeld => ?_)
   clear hK K
   refine pure_ (i := 12) (N := some 11) (v := ?_) (a' := ?_) #[true, true, true, true, true, true, true, true, true, true, true, true, true] rfl rfl (any_of HT_.out (by kernel_rfl)) (fun _ _ _ h => h) (Or.inl ⟨by rfl, ?_⟩) ?_ ?_
   rotate_left
   ·intro w'
    go_simp
    with_reducible rfl
   rotate_left
   ·simp only [Act.put, List.setIfInBounds_toArray, List.set_cons_zero, List.set_cons_succ, i64_w, i32_w]
    rfl
   refine done_ (done_of HT_.out (by kernel_rfl)) ?_
   have hnb98 := NB117_101.out
   have hnc98 := NB101_117.out
   have hnb99 := NB117_102.out
   have hnc99 := NB102_117.out
   have hnb100 := NB117_103.out
   have hnc100 := NB103_117.out
   have hcz101_0 : w93.cell? ⟨gb117, 0, none⟩ = some (.int .u64 0) := (blk_cell BK117.out 0).trans rfl
   have hcz101_1 : w93.cell? ⟨gb117, 1, none⟩ = some (.int .u64 0) := (blk_cell BK117.out 1).trans rfl
   have hcz101_2 : w93.cell? ⟨gb117, 2, none⟩ = some (.int .u64 0) := (blk_cell BK117.out 2).trans rfl
   have hcz101_3 : w93.cell? ⟨gb117, 3, none⟩ = some (.int .u64 0) := (blk_cell BK117.out 3).trans rfl
   have hfz101_0 := blk_frozen BK117.out 0
   have hfz101_1 := blk_frozen BK117.out 1
   have hfz101_2 := blk_frozen BK117.out 2
   have hfz101_3 := blk_frozen BK117.out 3
   have hcz102_0 : w93.cell? ⟨gb103, 0, none⟩ = some (.int .u64 a2_0) := (blk_cell BK103.out 0).trans rfl
   have hcz102_1 : w93.cell? ⟨gb103, 1, none⟩ = some (.int .u64 a2_1) := (blk_cell BK103.out 1).trans rfl
   have hcz102_2 : w93.cell? ⟨gb103, 2, none⟩ = some (.int .u64 a2_2) := (blk_cell BK103.out 2).trans rfl
   have hcz102_3 : w93.cell? ⟨gb103, 3, none⟩ = some (.int .u64 a2_3) := (blk_cell BK103.out 3).trans rfl
   have hfz102_0 := blk_frozen BK103.out 0
   have hfz102_1 := blk_frozen BK103.out 1
   have hfz102_2 := blk_frozen BK103.out 2
   have hfz102_3 := blk_frozen BK103.out 3
   go_upto_region 10 with (first | ((with_reducible refine gate_callee (f := 28) rfl ?_); refine goesL_ (some 62) rfl rfl Try.func28 (by kernel_rfl) rfl #[.agg #[.int .u64 t112, .int .u64 t113, .int .u64 t114, .int .u64 t115], .agg #[.int .u64 a2_0, .int .u64 a2_1, .int .u64 a2_2, .int .u64 a2_3]] rfl F10_ ?_; (with_reducible refine (vec_Sub.calls t112 t113 t114 t115 a2_0 a2_1 a2_2 a2_3 t118 t119 t120 t121 t122 _ A72.out).mono ?_); rintro e w103 ⟨rfl, hb⟩; refine ⟨_, rfl, ?_⟩; have n0_ := Aside0.mk (Kd.R_below (by (with_reducible repeat (first | apply Kd.R_alloc | apply Kd.R_drewN | apply Kd.R_drew)); exact (Kd.R_mono (Kd.R_far (p := ⟨gb117, 3, none⟩) (Kd.R_far (p := ⟨gb117, 2, none⟩) (Kd.R_far (p := ⟨gb117, 1, none⟩) (Kd.R_far (p := ⟨gb117, 0, none⟩) (Kd.R_types HO108.out BK117.out (by decide)) (fun _ hk => hk.2) (.int .u64 t112)) (fun _ hk => hk.2) (.int .u64 t113)) (fun _ hk => hk.2) (.int .u64 t114)) (fun _ hk => hk.2) (.int .u64 t115)) (fun _ h_ => h_.1))) hb); have n1_ := Aside0.mk (blk_below (g := gb101) (o := .cells #[.slice A0_0 l0_0.length c0_0, .slice A0_1 l0_1.length c0_1, .slice A0_2 l0_2.length c0_2] 96 (0, 0)) (by (with_reducible repeat (first | refine blk_drewN ?_ _ | refine blk_drew ?_ | refine blk_alloc ?_ _)); refine blk_far ?_ NB101_117.out _; (with_reducible repeat (first | refine blk_drewN ?_ _ | refine blk_drew ?_ | refine blk_alloc ?_ _)); refine blk_far ?_ NB101_117.out _; (with_reducible repeat (first | refine blk_drewN ?_ _ | refine blk_drew ?_ | refine blk_alloc ?_ _)); refine blk_far ?_ NB101_117.out _; (with_reducible repeat (first | refine blk_drewN ?_ _ | refine blk_drew ?_ | refine blk_alloc ?_ _)); refine blk_far ?_ NB101_117.out _; (with_reducible repeat (first | refine blk_drewN ?_ _ | refine blk_drew ?_ | refine blk_alloc ?_ _)); exact BK101.out) hb); have n2_ := Aside0.mk (blk_below (g := gb102) (o := .cells #[.slice A1_0 l1_0.length c1_0, .int .i64 a1_1, .int .i64 a1_2] 26 (0, 0)) (by (with_reducible repeat (first | refine blk_drewN ?_ _ | refine blk_drew ?_ | refine blk_alloc ?_ _)); refine blk_far ?_ NB102_117.out _; (with_reducible repeat (first | refine blk_drewN ?_ _ | refine blk_drew ?_ | refine blk_alloc ?_ _)); refine blk_far ?_ NB102_117.out _; (with_reducible repeat (first | refine blk_drewN ?_ _ | refine blk_drew ?_ | refine blk_alloc ?_ _)); refine blk_far ?_ NB102_117.out _; (with_reducible repeat (first | refine blk_drewN ?_ _ | refine blk_drew ?_ | refine blk_alloc ?_ _)); refine blk_far ?_ NB102_117.out _; (with_reducible repeat (first | refine blk_drewN ?_ _ | refine blk_drew ?_ | refine blk_alloc ?_ _)); exact BK102.out) hb); have n3_ := Aside0.mk (blk_below (g := gb103) (o := .cells #[.int .u64 a2_0, .int .u64 a2_1, .int .u64 a2_2, .int .u64 a2_3] 33 (0, 0)) (by (with_reducible repeat (first | refine blk_drewN ?_ _ | refine blk_drew ?_ | refine blk_alloc ?_ _)); refine blk_far ?_ NB103_117.out _; (with_reducible repeat (first | refine blk_drewN ?_ _ | refine blk_drew ?_ | refine blk_alloc ?_ _)); refine blk_far ?_ NB103_117.out _; (with_reducible repeat (first | refine blk_drewN ?_ _ | refine blk_drew ?_ | refine blk_alloc ?_ _)); refine blk_far ?_ NB103_117.out _; (with_reducible repeat (first | refine blk_drewN ?_ _ | refine blk_drew ?_ | refine blk_alloc ?_ _)); refine blk_far ?_ NB103_117.out _; (with_reducible repeat (first | refine blk_drewN ?_ _ | refine blk_drew ?_ | refine blk_alloc ?_ _)); exact BK103.out) hb); have n4_ := Aside0.mk (blk_below (g := gb117) (o := .cells #[.int .u64 t112, .int .u64 t113, .int .u64 t114, .int .u64 t115] 33 (0, 0)) (by (with_reducible repeat (first | refine blk_drewN ?_ _ | refine blk_drew ?_ | refine blk_alloc ?_ _)); refine blk_put (cs := #[.int .u64 t112, .int .u64 t113, .int .u64 t114, .int .u64 0]) ?_ 3 _ rfl; (with_reducible repeat (first | refine blk_drewN ?_ _ | refine blk_drew ?_ | refine blk_alloc ?_ _)); refine blk_put (cs := #[.int .u64 t112, .int .u64 t113, .int .u64 0, .int .u64 0]) ?_ 2 _ rfl; (with_reducible repeat (first | refine blk_drewN ?_ _ | refine blk_drew ?_ | refine blk_alloc ?_ _)); refine blk_put (cs := #[.int .u64 t112, .int .u64 0, .int .u64 0, .int .u64 0]) ?_ 1 _ rfl; (with_reducible repeat (first | refine blk_drewN ?_ _ | refine blk_drew ?_ | refine blk_alloc ?_ _)); refine blk_put (cs := #[.int .u64 0, .int .u64 0, .int .u64 0, .int .u64 0]) ?_ 0 _ rfl; (with_reducible repeat (first | refine blk_drewN ?_ _ | refine blk_drew ?_ | refine blk_alloc ?_ _)); exact BK117.out) hb); have n5_ := Aside0.mk (below_step F19_ hb); clear HO108; clear BK101; clear BK102; clear BK103; clear BK117; clear HB; have HO108 := n0_; have BK101 := n1_; have BK102 := n2_; have BK103 := n3_; have BK117 := n4_; have HB := n5_; clear n0_ n1_ n2_ n3_ n4_ n5_; (try clear hb); (try clear hb2); (try clear hk); (try clear hi); (try simp only [errW_none, errW_some])) | ((with_reducible refine gate_dst (N := 12) rfl ?_); refine box_event ?hg (N := 12) ?hd (cs := #[.int .u64 0, .int .u64 0, .int .u64 0, .int .u64 0]) (t := 33) ?hr ?_; (case hd => rfl); (case hg => rfl); (case hr => first | (go_simp; done) | (go_simp; rfl)); intro gb123 hg w104 hbox hb; have n0_ := Aside0.mk (Kd.R_below F29_ hb); have n1_ := Aside0.mk (blk_below (g := gb101) (o := .cells #[.slice A0_0 l0_0.length c0_0, .slice A0_1 l0_1.length c0_1, .slice A0_2 l0_2.length c0_2] 96 (0, 0)) F1_ hb); have n2_ := Aside0.mk (blk_below (g := gb102) (o := .cells #[.slice A1_0 l1_0.length c1_0, .int .i64 a1_1, .int .i64 a1_2] 26 (0, 0)) F2_ hb); have n3_ := Aside0.mk (blk_below (g := gb103) (o := .cells #[.int .u64 a2_0, .int .u64 a2_1, .int .u64 a2_2, .int .u64 a2_3] 33 (0, 0)) F3_ hb); have n4_ := Aside0.mk (blk_below (g := gb117) (o := .cells #[.int .u64 t112, .int .u64 t113, .int .u64 t114, .int .u64 t115] 33 (0, 0)) F6_ hb); have n5_ := Aside0.mk (below_step F19_ hb); have n6_ := Aside0.mk (hbox); have n7_ := Aside0.mk ((by rw [hg]; exact (below_size F19_) : w.heap.size ≤ gb123)); have n8_ := Aside0.mk ((by rw [hg]; exact (below_size F19_) : w.heap.size ≤ gb123)); have n9_ := Aside0.mk ((by rw [hg]; exact Nat.ne_of_lt (blk_lt (g := gb101) (o := .cells #[.slice A0_0 l0_0.length c0_0, .slice A0_1 l0_1.length c0_1, .slice A0_2 l0_2.length c0_2] 96 (0, 0)) F1_) : gb101 ≠ gb123)); have n10_ := Aside0.mk ((by rw [hg]; exact Nat.ne_of_gt (blk_lt (g := gb101) (o := .cells #[.slice A0_0 l0_0.length c0_0, .slice A0_1 l0_1.length c0_1, .slice A0_2 l0_2.length c0_2] 96 (0, 0)) F1_) : gb123 ≠ gb101)); have n11_ := Aside0.mk ((by rw [hg]; exact Nat.ne_of_lt (blk_lt (g := gb102) (o := .cells #[.slice A1_0 l1_0.length c1_0, .int .i64 a1_1, .int .i64 a1_2] 26 (0, 0)) F2_) : gb102 ≠ gb123)); have n12_ := Aside0.mk ((by rw [hg]; exact Nat.ne_of_gt (blk_lt (g := gb102) (o := .cells #[.slice A1_0 l1_0.length c1_0, .int .i64 a1_1, .int .i64 a1_2] 26 (0, 0)) F2_) : gb123 ≠ gb102)); have n13_ := Aside0.mk ((by rw [hg]; exact Nat.ne_of_lt (blk_lt (g := gb103) (o := .cells #[.int .u64 a2_0, .int .u64 a2_1, .int .u64 a2_2, .int .u64 a2_3] 33 (0, 0)) F3_) : gb103 ≠ gb123)); have n14_ := Aside0.mk ((by rw [hg]; exact Nat.ne_of_gt (blk_lt (g := gb103) (o := .cells #[.int .u64 a2_0, .int .u64 a2_1, .int .u64 a2_2, .int .u64 a2_3] 33 (0, 0)) F3_) : gb123 ≠ gb103)); have n15_ := Aside0.mk ((by rw [hg]; exact Nat.ne_of_lt (blk_lt (g := gb117) (o := .cells #[.int .u64 t112, .int .u64 t113, .int .u64 t114, .int .u64 t115] 33 (0, 0)) F6_) : gb117 ≠ gb123)); have n16_ := Aside0.mk ((by rw [hg]; exact Nat.ne_of_gt (blk_lt (g := gb117) (o := .cells #[.int .u64 t112, .int .u64 t113, .int .u64 t114, .int .u64 t115] 33 (0, 0)) F6_) : gb123 ≠ gb117)); clear HO108; clear BK101; clear BK102; clear BK103; clear BK117; clear HB; have HO108 := n0_; have BK101 := n1_; have BK102 := n2_; have BK103 := n3_; have BK117 := n4_; have HB := n5_; have BK123 := n6_; have GW123 := n7_; have GE123 := n8_; have NB101_123 := n9_; have NB123_101 := n10_; have NB102_123 := n11_; have NB123_102 := n12_; have NB103_123 := n13_; have NB123_103 := n14_; have NB117_123 := n15_; have NB123_117 := n16_; clear n0_ n1_ n2_ n3_ n4_ n5_ n6_ n7_ n8_ n9_ n10_ n11_ n12_ n13_ n14_ n15_ n16_; clear hb hbox hg; have hnb105 := NB123_101.out; have hnc105 := NB101_123.out; have hnb106 := NB123_102.out; have hnc106 := NB102_123.out; have hnb107 := NB123_103.out; have hnc107 := NB103_123.out; have hnb108 := NB123_117.out; have hnc108 := NB117_123.out; have hcz109_0 : w104.cell? ⟨gb123, 0, none⟩ = some (.int .u64 0) := (blk_cell BK123.out 0).trans rfl; have hcz109_1 : w104.cell? ⟨gb123, 1, none⟩ = some (.int .u64 0) := (blk_cell BK123.out 1).trans rfl; have hcz109_2 : w104.cell? ⟨gb123, 2, none⟩ = some (.int .u64 0) := (blk_cell BK123.out 2).trans rfl; have hcz109_3 : w104.cell? ⟨gb123, 3, none⟩ = some (.int .u64 0) := (blk_cell BK123.out 3).trans rfl; have hfz109_0 := blk_frozen BK123.out 0; have hfz109_1 := blk_frozen BK123.out 1; have hfz109_2 := blk_frozen BK123.out 2; have hfz109_3 := blk_frozen BK123.out 3))
   (try simp only [Act.put, List.setIfInBounds_toArray, List.set_cons_zero, List.set_cons_succ])
   go_cut [80] (fun v80 wc => ∃ (kq : Nat) (x80_72 : Bool), v80 = .bool x80_72 ∧ Aside0 (dunnagelaw14_FitTight.j0 kq t104 t106 x80_72 l0_0 l0_1 l0_2 l1_0 a1_1 a1_2 a2_0 a2_1 a2_2 a2_3 t118 t119 t120 t121 = some r) ∧ Aside0 (kq ≤ k) ∧ Aside0 (Kd.R (Kd.int .i64) 3 wc w.heap.size (fun _ => True) (.slice Ao88 t106.length co88) t106) ∧ Aside0 (wc.heap[gb101]? = some (.cells #[(.slice A0_0 l0_0.length c0_0), (.slice A0_1 l0_1.length c0_1), (.slice A0_2 l0_2.length c0_2)] 96 (0, 0))) ∧ Aside0 (wc.heap[gb102]? = some (.cells #[(.slice A1_0 l1_0.length c1_0), .int .i64 a1_1, .int .i64 a1_2] 26 (0, 0))) ∧ Aside0 (wc.heap[gb103]? = some (.cells #[.int .u64 a2_0, .int .u64 a2_1, .int .u64 a2_2, .int .u64 a2_3] 33 (0, 0))) ∧ Aside0 (wc.heap[gb117]? = some (.cells #[.int .u64 t112, .int .u64 t113, .int .u64 t114, .int .u64 t115] 33 (0, 0))) ∧ Aside0 (wc.heap[gb123]? = some (.cells #[.int .u64 t118, .int .u64 t119, .int .u64 t120, .int .u64 t121] 33 (0, 0))) ∧ Aside0 (Below w.heap.size w wc))
   case first =>
    have H := HC73.out
    clear HC73
    rcases t116 with _ | q124
    ·exact L1_
    ·have H1 : (dunnagelaw14_FitTight.j0 k t104 t106 true l0_0 l0_1 l0_2 l1_0 a1_1 a1_2 a2_0 a2_1 a2_2 a2_3 t118 t119 t120 t121) = some r := by rw [if_neg (show ¬ (some q124).isNone = true by simp)] at H; exact H
     clear H
     have H := H1
     clear H1
     try simp only [errW_none, errW_some]
     have H' := Aside0.mk H
     clear H
     try go_wp2
     have n0_ : Aside0 (Kd.R (Kd.int .i64) 3 ((((w104.setCell ⟨gb123, 0, none⟩ (.int .u64 t118)).setCell ⟨gb123, 1, none⟩ (.int .u64 t119)).setCell ⟨gb123, 2, none⟩ (.int .u64 t120)).setCell ⟨gb123, 3, none⟩ (.int .u64 t121)) w.heap.size (fun _ => True) (.slice Ao88 t106.length co88) t106) := ⟨F37_⟩
     have n1_ : Aside0 (((((w104.setCell ⟨gb123, 0, none⟩ (.int .u64 t118)).setCell ⟨gb123, 1, none⟩ (.int .u64 t119)).setCell ⟨gb123, 2, none⟩ (.int .u64 t120)).setCell ⟨gb123, 3, none⟩ (.int .u64 t121)).heap[gb101]? = some (.cells #[.slice A0_0 l0_0.length c0_0, .slice A0_1 l0_1.length c0_1, .slice A0_2 l0_2.length c0_2] 96 (0, 0))) := ⟨F31_⟩
     have n2_ : Aside0 (((((w104.setCell ⟨gb123, 0, none⟩ (.int .u64 t118)).setCell ⟨gb123, 1, none⟩ (.int .u64 t119)).setCell ⟨gb123, 2, none⟩ (.int .u64 t120)).setCell ⟨gb123, 3, none⟩ (.int .u64 t121)).heap[gb102]? = some (.cells #[.slice A1_0 l1_0.length c1_0, .int .i64 a1_1, .int .i64 a1_2] 26 (0, 0))) := ⟨F32_⟩
     have n3_ : Aside0 (((((w104.setCell ⟨gb123, 0, none⟩ (.int .u64 t118)).setCell ⟨gb123, 1, none⟩ (.int .u64 t119)).setCell ⟨gb123, 2, none⟩ (.int .u64 t120)).setCell ⟨gb123, 3, none⟩ (.int .u64 t121)).heap[gb103]? = some (.cells #[.int .u64 a2_0, .int .u64 a2_1, .int .u64 a2_2, .int .u64 a2_3] 33 (0, 0))) := ⟨F33_⟩
     have n4_ : Aside0 (((((w104.setCell ⟨gb123, 0, none⟩ (.int .u64 t118)).setCell ⟨gb123, 1, none⟩ (.int .u64 t119)).setCell ⟨gb123, 2, none⟩ (.int .u64 t120)).setCell ⟨gb123, 3, none⟩ (.int .u64 t121)).heap[gb117]? = some (.cells #[.int .u64 t112, .int .u64 t113, .int .u64 t114, .int .u64 t115] 33 (0, 0))) := ⟨F34_⟩
     have n5_ : Aside0 (((((w104.setCell ⟨gb123, 0, none⟩ (.int .u64 t118)).setCell ⟨gb123, 1, none⟩ (.int .u64 t119)).setCell ⟨gb123, 2, none⟩ (.int .u64 t120)).setCell ⟨gb123, 3, none⟩ (.int .u64 t121)).heap[gb123]? = some (.cells #[.int .u64 t118, .int .u64 t119, .int .u64 t120, .int .u64 t121] 33 (0, 0))) := ⟨F28_⟩
     have n6_ : Aside0 (Below w.heap.size w ((((w104.setCell ⟨gb123, 0, none⟩ (.int .u64 t118)).setCell ⟨gb123, 1, none⟩ (.int .u64 t119)).setCell ⟨gb123, 2, none⟩ (.int .u64 t120)).setCell ⟨gb123, 3, none⟩ (.int .u64 t121))) := ⟨F21_⟩
     (try clear HO108)
     (try clear BK101)
     (try clear BK102)
     (try clear BK103)
     (try clear BK117)
     (try clear BK123)
     (try clear HB)
     generalize ((((w104.setCell ⟨gb123, 0, none⟩ (.int .u64 t118)).setCell ⟨gb123, 1, none⟩ (.int .u64 t119)).setCell ⟨gb123, 2, none⟩ (.int .u64 t120)).setCell ⟨gb123, 3, none⟩ (.int .u64 t121)) = w117 at n0_ n1_ n2_ n3_ n4_ n5_ n6_ ⊢
     have HO108 := n0_
     have BK101 := n1_
     have BK102 := n2_
     have BK103 := n3_
     have BK117 := n4_
     have BK123 := n5_
     have HB := n6_
     clear n0_ n1_ n2_ n3_ n4_ n5_ n6_
     have n0_ := Aside0.mk (Kd.R_drew HO108.out)
     have n1_ := Aside0.mk (blk_drew BK101.out)
     have n2_ := Aside0.mk (blk_drew BK102.out)
     have n3_ := Aside0.mk (blk_drew BK103.out)
     have n4_ := Aside0.mk (blk_drew BK117.out)
     have n5_ := Aside0.mk (blk_drew BK123.out)
     have n6_ := Aside0.mk (below_drew1 HB.out)
     clear HO108
     clear BK101
     clear BK102
     clear BK103
     clear BK117
     clear BK123
     clear HB
     have HO108 := n0_
     have BK101 := n1_
     have BK102 := n2_
     have BK103 := n3_
     have BK117 := n4_
     have BK123 := n5_
     have HB := n6_
     clear n0_ n1_ n2_ n3_ n4_ n5_ n6_
     refine start_ (n := 16) (S := fun w' => True) (ds := []) #[false, false, false, false, false, false, false, false, false, false, false, false, false, false, false, false] (by kernel_rfl) rfl rfl trivial (fun hHeld => ?_); refine with_tabW dunnagelaw14_FitTight.tab10 dunnagelaw14_FitTight.bits10 (fun HT_ HW_ => ?_)
     generalize w117.drew = w118 at HO108 BK101 BK102 BK103 BK117 BK123 HB hHeld ⊢
     refine pure_ (i := 0) (N := some 65) (v := ?_) (a' := ?_) #[true, false, false, false, false, false, false, false, false, false, false, false, false, false, false, false] rfl rfl (any_of HT_.out (by kernel_rfl)) (fun _ _ _ h => h) (Or.inl ⟨by rfl, ?_⟩) ?_ ?_
     rotate_left
     ·intro w'
      go_simp
      with_reducible rfl
     rotate_left
     ·simp only [Act.put, List.setIfInBounds_toArray, List.set_cons_zero, List.set_cons_succ, i64_w, i32_w]
      rfl
     refine pure_ (i := 1) (N := some 66) (v := ?_) (a' := ?_) #[true, true, false, false, false, false, false, false, false, false, false, false, false, false, false, false] rfl rfl (any_of HT_.out (by kernel_rfl)) (fun _ _ _ h => h) (Or.inl ⟨by rfl, ?_⟩) ?_ ?_
     rotate_left
     ·intro w'
      go_simp
      with_reducible rfl
     rotate_left
     ·simp only [Act.put, List.setIfInBounds_toArray, List.set_cons_zero, List.set_cons_succ, i64_w, i32_w]
      rfl
     refine pure_ (i := 2) (N := some 67) (v := ?_) (a' := ?_) #[true, true, true, false, false, false, false, false, false, false, false, false, false, false, false, false] rfl rfl (any_of HT_.out (by kernel_rfl)) (fun _ _ _ h => h) (Or.inl ⟨by rfl, ?_⟩) ?_ ?_
     rotate_left
     ·intro w'
      go_simp
      with_reducible rfl
     rotate_left
     ·simp only [Act.put, List.setIfInBounds_toArray, List.set_cons_zero, List.set_cons_succ, i64_w, i32_w]
      rfl
     refine pure_ (i := 3) (N := some 68) (v := undef) (a' := ?_) #[true, true, true, true, false, false, false, false, false, false, false, false, false, false, false, false] rfl rfl (any_of HT_.out (by kernel_rfl)) (fun _ _ _ h => h) (Or.inr ⟨by rfl, rfl⟩) ?_ ?_
     rotate_left
     ·simp only [Act.put, List.setIfInBounds_toArray, List.set_cons_zero, List.set_cons_succ, i64_w, i32_w]
      rfl
     refine pure_ (i := 4) (N := some 69) (v := undef) (a' := ?_) #[true, true, true, true, true, false, false, false, false, false, false, false, false, false, false, false] rfl rfl (any_of HT_.out (by kernel_rfl)) (fun _ _ _ h => h) (Or.inr ⟨by rfl, rfl⟩) ?_ ?_
     rotate_left
     ·simp only [Act.put, List.setIfInBounds_toArray, List.set_cons_zero, List.set_cons_succ, i64_w, i32_w]
      rfl
     refine pure_ (i := 5) (N := some 70) (v := ?_) (a' := ?_) #[true, true, true, true, true, true, false, false, false, false, false, false, false, false, false, false] rfl rfl (any_of HT_.out (by kernel_rfl)) (fun _ _ _ h => h) (Or.inl ⟨by rfl, ?_⟩) ?_ ?_
     rotate_left
     ·intro w'
      go_simp
      with_reducible rfl
     rotate_left
     ·simp only [Act.put, List.setIfInBounds_toArray, List.set_cons_zero, List.set_cons_succ, i64_w, i32_w]
      rfl
     refine pure_ (i := 6) (N := some 71) (v := ?_) (a' := ?_) #[true, true, true, true, true, true, true, false, false, false, false, false, false, false, false, false] rfl rfl (any_of HT_.out (by kernel_rfl)) (fun _ _ _ h => h) (Or.inl ⟨by rfl, ?_⟩) ?_ ?_
     rotate_left
     ·intro w'
      go_simp
      with_reducible rfl
     rotate_left
     ·simp only [Act.put, List.setIfInBounds_toArray, List.set_cons_zero, List.set_cons_succ, i64_w, i32_w]
      rfl
     refine pure_ (i := 7) (N := some 72) (v := undef) (a' := ?_) #[true, true, true, true, true, true, true, true, false, false, false, false, false, false, false, false] rfl rfl (any_of HT_.out (by kernel_rfl)) (fun _ _ _ h => h) (Or.inr ⟨by rfl, rfl⟩) ?_ ?_
     rotate_left
     ·simp only [Act.put, List.setIfInBounds_toArray, List.set_cons_zero, List.set_cons_succ, i64_w, i32_w]
      rfl
     refine pure_ (i := 8) (N := some 73) (v := undef) (a' := ?_) #[true, true, true, true, true, true, true, true, true, false, false, false, false, false, false, false] rfl rfl (any_of HT_.out (by kernel_rfl)) (fun _ _ _ h => h) (Or.inr ⟨by rfl, rfl⟩) ?_ ?_
     rotate_left
     ·simp only [Act.put, List.setIfInBounds_toArray, List.set_cons_zero, List.set_cons_succ, i64_w, i32_w]
      rfl
     refine pure_ (i := 9) (N := some 74) (v := undef) (a' := ?_) #[true, true, true, true, true, true, true, true, true, true, false, false, false, false, false, false] rfl rfl (any_of HT_.out (by kernel_rfl)) (fun _ _ _ h => h) (Or.inr ⟨by rfl, rfl⟩) ?_ ?_
     rotate_left
     ·simp only [Act.put, List.setIfInBounds_toArray, List.set_cons_zero, List.set_cons_succ, i64_w, i32_w]
      rfl
     refine pure_ (i := 10) (N := some 75) (v := undef) (a' := ?_) #[true, true, true, true, true, true, true, true, true, true, true, false, false, false, false, false] rfl rfl (any_of HT_.out (by kernel_rfl)) (fun _ _ _ h => h) (Or.inr ⟨by rfl, rfl⟩) ?_ ?_
     rotate_left
     ·simp only [Act.put, List.setIfInBounds_toArray, List.set_cons_zero, List.set_cons_succ, i64_w, i32_w]
      rfl
     refine pure_ (i := 11) (N := some 76) (v := undef) (a' := ?_) #[true, true, true, true, true, true, true, true, true, true, true, true, false, false, false, false] rfl rfl (any_of HT_.out (by kernel_rfl)) (fun _ _ _ h => h) (Or.inr ⟨by rfl, rfl⟩) ?_ ?_
     rotate_left
     ·simp only [Act.put, List.setIfInBounds_toArray, List.set_cons_zero, List.set_cons_succ, i64_w, i32_w]
      rfl
     refine pure_ (i := 12) (N := some 77) (v := undef) (a' := ?_) #[true, true, true, true, true, true, true, true, true, true, true, true, true, false, false, false] rfl rfl (any_of HT_.out (by kernel_rfl)) (fun _ _ _ h => h) (Or.inr ⟨by rfl, rfl⟩) ?_ ?_
     rotate_left
     ·simp only [Act.put, List.setIfInBounds_toArray, List.set_cons_zero, List.set_cons_succ, i64_w, i32_w]
      rfl
     refine pure_ (i := 13) (N := some 78) (v := undef) (a' := ?_) #[true, true, true, true, true, true, true, true, true, true, true, true, true, true, false, false] rfl rfl (any_of HT_.out (by kernel_rfl)) (fun _ _ _ h => h) (Or.inr ⟨by rfl, rfl⟩) ?_ ?_
     rotate_left
     ·simp only [Act.put, List.setIfInBounds_toArray, List.set_cons_zero, List.set_cons_succ, i64_w, i32_w]
      rfl
     refine pure_ (i := 14) (N := some 79) (v := undef) (a' := ?_) #[true, true, true, true, true, true, true, true, true, true, true, true, true, true, true, false] rfl rfl (any_of HT_.out (by kernel_rfl)) (fun _ _ _ h => h) (Or.inr ⟨by rfl, rfl⟩) ?_ ?_
     rotate_left
     ·simp only [Act.put, List.setIfInBounds_toArray, List.set_cons_zero, List.set_cons_succ, i64_w, i32_w]
      rfl
     refine pure_ (i := 15) (N := some 80) (v := ?_) (a' := ?_) #[true, true, true, true, true, true, true, true, true, true, true, true, true, true, true, true] rfl rfl (any_of HT_.out (by kernel_rfl)) (fun _ _ _ h => h) (Or.inl ⟨by rfl, ?_⟩) ?_ ?_
     rotate_left
     ·intro w'
      go_simp
      with_reducible rfl
     rotate_left
     ·simp only [Act.put, List.setIfInBounds_toArray, List.set_cons_zero, List.set_cons_succ, i64_w, i32_w]
      rfl
     refine done_ (done_of HT_.out (by kernel_rfl)) ?_
     try go_wp2
     go_meet
     case rel => exact ⟨_, (true), (by first | rfl | (simp; done) | (simp [*]; done)), H', ⟨by first | omega | exact Nat.le_refl _⟩, ⟨F54_⟩, ⟨F47_⟩, ⟨F48_⟩, ⟨F49_⟩, ⟨F50_⟩, ⟨F51_⟩, ⟨F21_⟩⟩
   case rest =>
    clear HC73
    try clear c1
    try clear p1
    try clear q1
    try clear hx1
    try clear qi1
    try clear c2
    try clear p2
    try clear c6
    try clear c9
    try clear c10
    try clear c11
    try clear p12
    try clear q12
    try clear hx12
    try clear qi12
    try clear c28
    try clear c69
    try clear c98
    try clear c99
    try clear c100
    try clear c105
    try clear c106
    try clear c107
    try clear c108
    try clear c111
    try clear c111b0
    try clear c111b1
    try clear hcz101_0
    try clear hcz101_1
    try clear hcz101_2
    try clear hcz101_3
    try clear hcz102_0
    try clear hcz102_1
    try clear hcz102_2
    try clear hcz102_3
    try clear hcz109_0
    try clear hcz109_1
    try clear hcz109_2
    try clear hcz109_3
    try clear hfz101_0
    try clear hfz101_1
    try clear hfz101_2
    try clear hfz101_3
    try clear hfz102_0
    try clear hfz102_1
    try clear hfz102_2
    try clear hfz102_3
    try clear hfz109_0
    try clear hfz109_1
    try clear hfz109_2
    try clear hfz109_3
    try clear hx127_0
    try clear p127
    try clear q124
    try clear q125
    try clear q127
    obtain ⟨kq, x80_72, rfl, HA, HJ72, HO_9, BK101, BK102, BK103, BK117, BK123, HB⟩ := hcut
    cases kq with
    | zero => exact absurd HA.out (by simp [dunnagelaw14_FitTight.j0])
    | succ kj72 =>
     have H := HA.out
     clear HA
     simp only [dunnagelaw14_FitTight.j0] at H
     by_cases c119 : x80_72 = true
     ·subst c119
      have H1 : (some false) = some r := by rw [if_pos rfl] at H; exact H
      clear H
      have H := H1
      clear H1
      obtain rfl := Option.some.inj H
      go_wp2
      go_ret
      exact ⟨F39_, F21_⟩
     ·replace c119 := Bool.eq_false_iff.mpr c119
      subst c119
      have H1 : (dunnagelaw14_FitTight.l0 kj72 t104 t106 0 l0_0 l0_1 l0_2 l1_0 a1_1 a1_2 a2_0 a2_1 a2_2 a2_3 t118 t119 t120 t121) = some r := by rw [if_neg (show ¬ (false = true) by decide)] at H; exact H
      clear H
      have H := H1
      clear H1
      have H' := Aside0.mk H
      clear H
      go_wp2
      go_loopg [14] kj72 (fun kq v14 w' => ∃ (x14_2 : Int), v14 = .int .i64 x14_2 ∧ Aside0 (dunnagelaw14_FitTight.l0 kq t104 t106 x14_2 l0_0 l0_1 l0_2 l1_0 a1_1 a1_2 a2_0 a2_1 a2_2 a2_3 t118 t119 t120 t121 = some r) ∧ Aside0 (kq ≤ kj72) ∧ Aside0 (Kd.R (Kd.int .i64) 3 w' w.heap.size (fun _ => True) (.slice Ao88 t106.length co88) t106) ∧ Aside0 (w'.heap[gb101]? = some (.cells #[(.slice A0_0 l0_0.length c0_0), (.slice A0_1 l0_1.length c0_1), (.slice A0_2 l0_2.length c0_2)] 96 (0, 0))) ∧ Aside0 (w'.heap[gb102]? = some (.cells #[(.slice A1_0 l1_0.length c1_0), .int .i64 a1_1, .int .i64 a1_2] 26 (0, 0))) ∧ Aside0 (w'.heap[gb103]? = some (.cells #[.int .u64 a2_0, .int .u64 a2_1, .int .u64 a2_2, .int .u64 a2_3] 33 (0, 0))) ∧ Aside0 (w'.heap[gb117]? = some (.cells #[.int .u64 t112, .int .u64 t113, .int .u64 t114, .int .u64 t115] 33 (0, 0))) ∧ Aside0 (w'.heap[gb123]? = some (.cells #[.int .u64 t118, .int .u64 t119, .int .u64 t120, .int .u64 t121] 33 (0, 0))) ∧ Aside0 (Below w.heap.size w w'))
      case atStart => exact ⟨(0), (by first | rfl | (simp; done) | (simp [*]; done)), H', ⟨Nat.le_refl _⟩, ⟨by (with_reducible repeat (first | apply Kd.R_alloc | apply Kd.R_drewN | apply Kd.R_drew)); exact HO_9.out⟩, ⟨F47_⟩, ⟨F48_⟩, ⟨F49_⟩, ⟨F50_⟩, ⟨F51_⟩, ⟨F21_⟩⟩
      case round =>
       clear H'
       try clear c1
       try clear p1
       try clear q1
       try clear hx1
       try clear qi1
       try clear c2
       try clear p2
       try clear c6
       try clear c9
       try clear c10
       try clear c11
       try clear p12
       try clear q12
       try clear hx12
       try clear qi12
       try clear c28
       try clear c69
       try clear c98
       try clear c99
       try clear c100
       try clear c105
       try clear c106
       try clear c107
       try clear c108
       try clear c111
       try clear c111b0
       try clear c111b1
       try clear c119
       try clear hcz101_0
       try clear hcz101_1
       try clear hcz101_2
       try clear hcz101_3
       try clear hcz102_0
       try clear hcz102_1
       try clear hcz102_2
       try clear hcz102_3
       try clear hcz109_0
       try clear hcz109_1
       try clear hcz109_2
       try clear hcz109_3
       try clear hfz101_0
       try clear hfz101_1
       try clear hfz101_2
       try clear hfz101_3
       try clear hfz102_0
       try clear hfz102_1
       try clear hfz102_2
       try clear hfz102_3
       try clear hfz109_0
       try clear hfz109_1
       try clear hfz109_2
       try clear hfz109_3
       try clear hx127_0
       try clear p1
       try clear p12
       try clear p127
       try clear p2
       try clear q1
       try clear q12
       try clear q124
       try clear q125
       try clear q127
       obtain ⟨x14_2, rfl, HA, HK2, HO_9, BK101, BK102, BK103, BK117, BK123, HB⟩ := hrel
       cases gk with
       | zero => exact absurd HA.out (by simp [dunnagelaw14_FitTight.l0])
       | succ k2 =>
        have H := HA.out
        clear HA
        simp only [dunnagelaw14_FitTight.l0] at H
        by_cases c120 : x14_2 < (t106.length : Int)
        ·rw [if_pos c120] at H
         have c120b0 : decide (x14_2 < (t106.length : Int)) = true := decide_eq_true c120
         clear c120
         by_cases c121 : 0 ≤ x14_2
         ·rw [if_pos c121] at H
          have c121b0 : decide (0 ≤ x14_2) = true := decide_eq_true c121
          clear c121
          replace H := Option.bind_eq_some_iff.mp H
          obtain ⟨⟨t129, t130, t131, t132, t133⟩, A1220, H⟩ := H
          replace H : ((vec_Sub.f t129 t130 t131 t132 a2_0 a2_1 a2_2 a2_3).bind fun bt135 => (if t133.isNone = true then (if bt135.2.2.2.2.isNone = true then ((fit_Tighter.f bt135.1 bt135.2.1 bt135.2.2.1 bt135.2.2.2.1 t118 t119 t120 t121).bind fun t143 => (if t143 = true then (some false) else (dunnagelaw14_FitTight.l0 k2 t104 t106 (wrap64 (x14_2 + 1)) l0_0 l0_1 l0_2 l1_0 a1_1 a1_2 a2_0 a2_1 a2_2 a2_3 t118 t119 t120 t121))) else (some false)) else (some false))) = some r := H
          have A122 := Aside0.mk A1220
          clear A1220
          replace H := Option.bind_eq_some_iff.mp H
          obtain ⟨⟨t135, t136, t137, t138, t139⟩, A1230, H⟩ := H
          replace H : (if t133.isNone = true then (if t139.isNone = true then ((fit_Tighter.f t135 t136 t137 t138 t118 t119 t120 t121).bind fun t143 => (if t143 = true then (some false) else (dunnagelaw14_FitTight.l0 k2 t104 t106 (wrap64 (x14_2 + 1)) l0_0 l0_1 l0_2 l1_0 a1_1 a1_2 a2_0 a2_1 a2_2 a2_3 t118 t119 t120 t121))) else (some false)) else (some false)) = some r := H
          have A123 := Aside0.mk A1230
          clear A1230
          rcases t133 with _ | q141
          ·have H1 : (if t139.isNone = true then ((fit_Tighter.f t135 t136 t137 t138 t118 t119 t120 t121).bind fun t143 => (if t143 = true then (some false) else (dunnagelaw14_FitTight.l0 k2 t104 t106 (wrap64 (x14_2 + 1)) l0_0 l0_1 l0_2 l1_0 a1_1 a1_2 a2_0 a2_1 a2_2 a2_3 t118 t119 t120 t121))) else (some false)) = some r := by rw [if_pos (show (none : Option Int).isNone = true by rfl)] at H; exact H
           clear H
           have H := H1
           clear H1
           try simp only [errW_none, errW_some]
           rcases t139 with _ | q142
           ·exact L8_
           ·have H1 : (some false) = some r := by rw [if_neg (show ¬ (some q142).isNone = true by simp)] at H; exact H
            clear H
            have H := H1
            clear H1
            try simp only [errW_none, errW_some]
            obtain rfl := Option.some.inj H
            try go_wp2
            have n0_ := Aside0.mk (Kd.R_drew HO_9.out)
            have n1_ := Aside0.mk (blk_drew BK101.out)
            have n2_ := Aside0.mk (blk_drew BK102.out)
            have n3_ := Aside0.mk (blk_drew BK103.out)
            have n4_ := Aside0.mk (blk_drew BK117.out)
            have n5_ := Aside0.mk (blk_drew BK123.out)
            have n6_ := Aside0.mk (below_drew1 HB.out)
            clear HO_9
            clear BK101
            clear BK102
            clear BK103
            clear BK117
            clear BK123
            clear HB
            have HO_9 := n0_
            have BK101 := n1_
            have BK102 := n2_
            have BK103 := n3_
            have BK117 := n4_
            have BK123 := n5_
            have HB := n6_
            clear n0_ n1_ n2_ n3_ n4_ n5_ n6_
            have p128 : 0 ≤ (x14_2 : Int) := of_decide_eq_true F53_
            have q128 : x14_2 < (t106.length : Int) := of_decide_eq_true F53_
            obtain ⟨ad128, e128, hx128_0⟩ := Kd.at_int (Kd.R_reads' HO_9.out).2.2 x14_2 p128 q128
            cases e128
            replace p128 := eq_true p128
            replace q128 := eq_true q128
            refine start_ (n := 13) (S := fun w' => w'.cell? ⟨gb101, 0, none⟩ = some (.slice A0_0 l0_0.length c0_0) ∧ w'.cell? ⟨gb101, 1, none⟩ = some (.slice A0_1 l0_1.length c0_1) ∧ w'.cell? ⟨gb101, 2, none⟩ = some (.slice A0_2 l0_2.length c0_2) ∧ w'.cell? ⟨gb102, 0, none⟩ = some (.slice A1_0 l1_0.length c1_0) ∧ w'.cell? ⟨gb102, 1, none⟩ = some (.int .i64 a1_1) ∧ w'.cell? ⟨gb102, 2, none⟩ = some (.int .i64 a1_2) ∧ w'.cell? (ad128.add (x14_2).toNat) = some (.int .i64 (rd t106 x14_2))) (ds := []) #[false, false, false, false, false, false, false, false, false, false, false, false, false] (by kernel_rfl) rfl rfl ⟨(blk_cell BK101.out 0).trans rfl, (blk_cell BK101.out 1).trans rfl, (blk_cell BK101.out 2).trans rfl, (blk_cell BK102.out 0).trans rfl, (blk_cell BK102.out 1).trans rfl, (blk_cell BK102.out 2).trans rfl, hx128_0⟩ (fun hHeld => ?_); refine with_tabW dunnagelaw14_FitTight.tab15 dunnagelaw14_FitTight.bits15 (fun HT_ HW_ => ?_)
            generalize wr.drew = w192 at HO_9 BK101 BK102 BK103 BK117 BK123 HB hx128_0 hHeld ⊢
            refine pure_ (i := 2) (N := some 90) (v := ?_) (a' := ?_) #[false, false, true, false, false, false, false, false, false, false, false, false, false] rfl rfl (any_of HT_.out (by kernel_rfl)) (fun _ _ _ h => h) (Or.inl ⟨by rfl, ?_⟩) ?_ ?_
            rotate_left
            ·intro w'
             go_simp
             with_reducible rfl
            rotate_left
            ·simp only [Act.put, List.setIfInBounds_toArray, List.set_cons_zero, List.set_cons_succ, i64_w, i32_w]
             rfl
            refine pure_ (i := 3) (N := some 91) (v := ?_) (a' := ?_) #[false, false, true, true, false, false, false, false, false, false, false, false, false] rfl rfl (any_of HT_.out (by kernel_rfl)) (fun _ _ _ h => h) (Or.inl ⟨by rfl, ?_⟩) ?_ ?_
            rotate_left
            ·intro w'
             go_simp
             with_reducible rfl
            rotate_left
            ·simp only [Act.put, List.setIfInBounds_toArray, List.set_cons_zero, List.set_cons_succ, i64_w, i32_w]
             rfl
            refine pure_ (i := 4) (N := some 92) (v := ?_) (a' := ?_) #[false, false, true, true, true, false, false, false, false, false, false, false, false] rfl rfl (any_of HT_.out (by kernel_rfl)) (fun _ _ _ h => h) (Or.inl ⟨by rfl, ?_⟩) ?_ ?_
            rotate_left
            ·intro w'
             go_simp
             with_reducible rfl
            rotate_left
            ·simp only [Act.put, List.setIfInBounds_toArray, List.set_cons_zero, List.set_cons_succ, i64_w, i32_w]
             rfl
            refine take_ (i := 0) (N := some 88) (v := ?_) (a' := ?_) #[true, false, true, true, true, false, false, false, false, false, false, false, false] rfl rfl (take_ofW HT_.out HW_.out (by kernel_rfl)) (fun _ _ _ h => h) (Or.inl ⟨by rfl, ?_⟩) hHeld ?_ ?_
            rotate_left
            ·rintro w' ⟨s0, s1, s2, s3, s4, s5, s6⟩
             go_simp
             with_reducible rfl
            rotate_left
            ·simp only [Act.put, List.setIfInBounds_toArray, List.set_cons_zero, List.set_cons_succ, i64_w, i32_w]
             rfl
            refine take_ (i := 1) (N := some 89) (v := ?_) (a' := ?_) #[true, true, true, true, true, false, false, false, false, false, false, false, false] rfl rfl (take_ofW HT_.out HW_.out (by kernel_rfl)) (fun _ _ _ h => h) (Or.inl ⟨by rfl, ?_⟩) hHeld ?_ ?_
            rotate_left
            ·rintro w' ⟨s0, s1, s2, s3, s4, s5, s6⟩
             go_simp
             with_reducible rfl
            rotate_left
            ·simp only [Act.put, List.setIfInBounds_toArray, List.set_cons_zero, List.set_cons_succ, i64_w, i32_w]
             rfl
            refine take_ (i := 5) (N := some 93) (v := ?_) (a' := ?_) #[true, true, true, true, true, true, false, false, false, false, false, false, false] rfl rfl (take_ofW HT_.out HW_.out (by kernel_rfl)) (fun _ _ _ h => h) (Or.inl ⟨by rfl, ?_⟩) hHeld ?_ ?_
            rotate_left
            ·rintro w' ⟨s0, s1, s2, s3, s4, s5, s6⟩
             go_simp
             with_reducible rfl
            rotate_left
            ·simp only [Act.put, List.setIfInBounds_toArray, List.set_cons_zero, List.set_cons_succ, i64_w, i32_w]
             rfl
            refine join_ (σ := Nat) 2 #[true, true, true, true, true, true, true, true, true, true, true, false, false] (fun s_ => [(94, .tuple #[.agg #[.int .u64 t129, .int .u64 t130, .int .u64 t131, .int .u64 t132], errW none]), (15, .pointer (some ⟨s_, 0, none⟩)), (87, .tuple #[.agg #[.int .u64 t129, .int .u64 t130, .int .u64 t131, .int .u64 t132], errW none]), (95, .agg #[.int .u64 t129, .int .u64 t130, .int .u64 t131, .int .u64 t132]), (96, errW none)]) (fun s_ w' => (w'.cell? ⟨gb101, 0, none⟩ = some (.slice A0_0 l0_0.length c0_0) ∧ w'.cell? ⟨gb101, 1, none⟩ = some (.slice A0_1 l0_1.length c0_1) ∧ w'.cell? ⟨gb101, 2, none⟩ = some (.slice A0_2 l0_2.length c0_2) ∧ w'.cell? ⟨gb102, 0, none⟩ = some (.slice A1_0 l1_0.length c1_0) ∧ w'.cell? ⟨gb102, 1, none⟩ = some (.int .i64 a1_1) ∧ w'.cell? ⟨gb102, 2, none⟩ = some (.int .i64 a1_2) ∧ w'.cell? (ad128.add (x14_2).toNat) = some (.int .i64 (rd t106 x14_2))) ∧ (Kd.R (Kd.int .i64) 3 w' w.heap.size (fun _ => True) (.slice (some ad128) t106.length co88) t106) ∧ (w'.heap[gb101]? = some (.cells #[.slice A0_0 l0_0.length c0_0, .slice A0_1 l0_1.length c0_1, .slice A0_2 l0_2.length c0_2] 96 (0, 0))) ∧ (w'.heap[gb102]? = some (.cells #[.slice A1_0 l1_0.length c1_0, .int .i64 a1_1, .int .i64 a1_2] 26 (0, 0))) ∧ (w'.heap[gb103]? = some (.cells #[.int .u64 a2_0, .int .u64 a2_1, .int .u64 a2_2, .int .u64 a2_3] 33 (0, 0))) ∧ (w'.heap[gb117]? = some (.cells #[.int .u64 t112, .int .u64 t113, .int .u64 t114, .int .u64 t115] 33 (0, 0))) ∧ (w'.heap[gb123]? = some (.cells #[.int .u64 t118, .int .u64 t119, .int .u64 t120, .int .u64 t121] 33 (0, 0))) ∧ (w'.heap[s_]? = some (.cells #[.int .u64 0, .int .u64 0, .int .u64 0, .int .u64 0] 33 (0, 0))) ∧ (w.heap.size ≤ s_) ∧ (w.heap.size ≤ s_) ∧ (gb101 ≠ s_) ∧ (s_ ≠ gb101) ∧ (gb102 ≠ s_) ∧ (s_ ≠ gb102) ∧ (gb103 ≠ s_) ∧ (s_ ≠ gb103) ∧ (gb117 ≠ s_) ∧ (s_ ≠ gb117) ∧ (gb123 ≠ s_) ∧ (s_ ≠ gb123) ∧ (Below w.heap.size w w')) ?_ ?_
            rotate_left
            ·intro hCont
             refine two_ (i := 6) (j := 10) (Ni := some 94) (Nj := some 15) #[true, true, true, true, true, true, true, false, false, false, false, false, false] #[true, true, true, true, true, true, false, false, false, false, true, false, false] rfl rfl rfl rfl (two_of HT_.out (by kernel_rfl)) (by decide) (by decide) (fun K hK => ?_) (fun K hK => ?_)
             ·skip
              refine goes_ Try.func72 (by kernel_rfl) rfl #[.agg #[.slice A0_0 l0_0.length c0_0, .slice A0_1 l0_1.length c0_1, .slice A0_2 l0_2.length c0_2], .agg #[.slice A1_0 l1_0.length c1_0, .int .i64 a1_1, .int .i64 a1_2], .int .i64 (rd t106 x14_2)] (by rfl) rfl rfl F10_ ?_
              with_reducible refine (room_Rest.calls k2 _ _ l0_0 _ _ l0_1 _ _ l0_2 _ _ l1_0 a1_1 a1_2 (rd t106 x14_2) t129 t130 t131 t132 none _ ?side1 ?side2 ?side3 ?side4 ?side5 ?side6 ?side7 ?side8 A122.out).mono ?_
              (case side1 => exact F11_)
              (case side2 => exact HC0_0.out)
              (case side3 => exact F12_)
              (case side4 => exact HC0_1.out)
              (case side5 => exact F13_)
              (case side6 => exact HC0_2.out)
              (case side7 => exact F14_)
              (case side8 => exact HC1_0.out)
              rintro e w193 ⟨rfl, hb⟩
              have HS6_ := (hb.cell (World.block_lt_of_cell? _ _ (hHeld.2.2.2.2.2.2))).trans (hHeld.2.2.2.2.2.2)
              refine ⟨_, rfl, ?_⟩
              have n0_ := Aside0.mk (Kd.R_below F15_ hb)
              have n1_ := Aside0.mk (blk_below (g := gb101) (o := .cells #[.slice A0_0 l0_0.length c0_0, .slice A0_1 l0_1.length c0_1, .slice A0_2 l0_2.length c0_2] 96 (0, 0)) F1_ hb)
              have n2_ := Aside0.mk (blk_below (g := gb102) (o := .cells #[.slice A1_0 l1_0.length c1_0, .int .i64 a1_1, .int .i64 a1_2] 26 (0, 0)) F2_ hb)
              have n3_ := Aside0.mk (blk_below (g := gb103) (o := .cells #[.int .u64 a2_0, .int .u64 a2_1, .int .u64 a2_2, .int .u64 a2_3] 33 (0, 0)) F3_ hb)
              have n4_ := Aside0.mk (blk_below (g := gb117) (o := .cells #[.int .u64 t112, .int .u64 t113, .int .u64 t114, .int .u64 t115] 33 (0, 0)) F6_ hb)
              have n5_ := Aside0.mk (blk_below (g := gb123) (o := .cells #[.int .u64 t118, .int .u64 t119, .int .u64 t120, .int .u64 t121] 33 (0, 0)) F8_ hb)
              have n6_ := Aside0.mk (below_step F5_ hb)
              clear HO_9
              clear BK101
              clear BK102
              clear BK103
              clear BK117
              clear BK123
              clear HB
              have HO_9 := n0_
              have BK101 := n1_
              have BK102 := n2_
              have BK103 := n3_
              have BK117 := n4_
              have BK123 := n5_
              have HB := n6_
              clear n0_ n1_ n2_ n3_ n4_ n5_ n6_
              (try clear hb)
              (try clear hb2)
              (try clear hk)
              (try clear hi)
              (try simp only [errW_none, errW_some])
              refine hK.out _ _ ⟨(blk_cell BK101.out 0).trans rfl, (blk_cell BK101.out 1).trans rfl, (blk_cell BK101.out 2).trans rfl, (blk_cell BK102.out 0).trans rfl, (blk_cell BK102.out 1).trans rfl, (blk_cell BK102.out 2).trans rfl, HS6_⟩ (fun hHeld => ?_)
              clear hK K
              refine norm_ (a' := ?_) ?_ ?_
              rotate_left
              ·show Act.put _ (some 94) _ = _
               simp only [Act.put, List.setIfInBounds_toArray, List.set_cons_zero, List.set_cons_succ, i64_w, i32_w]
               rfl
              refine pure_ (i := 7) (N := some 87) (v := ?_) (a' := ?_) #[true, true, true, true, true, true, true, true, false, false, false, false, false] rfl rfl (any_of HT_.out (by kernel_rfl)) (fun _ _ _ h => h) (Or.inl ⟨by rfl, ?_⟩) ?_ ?_
              rotate_left
              ·intro w'
               go_simp
               with_reducible rfl
              rotate_left
              ·simp only [Act.put, List.setIfInBounds_toArray, List.set_cons_zero, List.set_cons_succ, i64_w, i32_w]
               rfl
              refine pure_ (i := 8) (N := some 95) (v := ?_) (a' := ?_) #[true, true, true, true, true, true, true, true, true, false, false, false, false] rfl rfl (any_of HT_.out (by kernel_rfl)) (fun _ _ _ h => h) (Or.inl ⟨by rfl, ?_⟩) ?_ ?_
              rotate_left
              ·intro w'
               go_simp
               with_reducible rfl
              rotate_left
              ·simp only [Act.put, List.setIfInBounds_toArray, List.set_cons_zero, List.set_cons_succ, i64_w, i32_w]
               rfl
              refine pure_ (i := 9) (N := some 96) (v := ?_) (a' := ?_) #[true, true, true, true, true, true, true, true, true, true, false, false, false] rfl rfl (any_of HT_.out (by kernel_rfl)) (fun _ _ _ h => h) (Or.inl ⟨by rfl, ?_⟩) ?_ ?_
              rotate_left
              ·intro w'
               go_simp
               with_reducible rfl
              rotate_left
              ·simp only [Act.put, List.setIfInBounds_toArray, List.set_cons_zero, List.set_cons_succ, i64_w, i32_w]
               rfl
              refine one_ (i := 10) (N := some 15) #[true, true, true, true, true, true, true, true, true, true, true, false, false] rfl rfl (one_of HT_.out (by kernel_rfl)) (by decide) (fun K hK => ?_)
              refine box_step ?hg (N := 15) ?hd (cs := #[.int .u64 0, .int .u64 0, .int .u64 0, .int .u64 0]) (t := 33) ?hr ?_; (case hd => rfl); (case hg => rfl); (case hr => first | (go_simp; done) | (go_simp; rfl))
              intro gb134 hg w194 hbox hb
              have HS6_ := (hb.cell (World.block_lt_of_cell? _ _ (hHeld.2.2.2.2.2.2))).trans (hHeld.2.2.2.2.2.2)
              have n0_ := Aside0.mk (Kd.R_below F15_ hb)
              have n1_ := Aside0.mk (blk_below (g := gb101) (o := .cells #[.slice A0_0 l0_0.length c0_0, .slice A0_1 l0_1.length c0_1, .slice A0_2 l0_2.length c0_2] 96 (0, 0)) F1_ hb)
              have n2_ := Aside0.mk (blk_below (g := gb102) (o := .cells #[.slice A1_0 l1_0.length c1_0, .int .i64 a1_1, .int .i64 a1_2] 26 (0, 0)) F2_ hb)
              have n3_ := Aside0.mk (blk_below (g := gb103) (o := .cells #[.int .u64 a2_0, .int .u64 a2_1, .int .u64 a2_2, .int .u64 a2_3] 33 (0, 0)) F3_ hb)
              have n4_ := Aside0.mk (blk_below (g := gb117) (o := .cells #[.int .u64 t112, .int .u64 t113, .int .u64 t114, .int .u64 t115] 33 (0, 0)) F6_ hb)
              have n5_ := Aside0.mk (blk_below (g := gb123) (o := .cells #[.int .u64 t118, .int .u64 t119, .int .u64 t120, .int .u64 t121] 33 (0, 0)) F8_ hb)
              have n6_ := Aside0.mk (below_step F5_ hb)
              have n7_ := Aside0.mk (hbox)
              have n8_ := Aside0.mk ((by rw [hg]; exact (below_size F5_) : w.heap.size ≤ gb134))
              have n9_ := Aside0.mk ((by rw [hg]; exact (below_size F5_) : w.heap.size ≤ gb134))
              have n10_ := Aside0.mk ((by rw [hg]; exact Nat.ne_of_lt (blk_lt (g := gb101) (o := .cells #[.slice A0_0 l0_0.length c0_0, .slice A0_1 l0_1.length c0_1, .slice A0_2 l0_2.length c0_2] 96 (0, 0)) F1_) : gb101 ≠ gb134))
              have n11_ := Aside0.mk ((by rw [hg]; exact Nat.ne_of_gt (blk_lt (g := gb101) (o := .cells #[.slice A0_0 l0_0.length c0_0, .slice A0_1 l0_1.length c0_1, .slice A0_2 l0_2.length c0_2] 96 (0, 0)) F1_) : gb134 ≠ gb101))
              have n12_ := Aside0.mk ((by rw [hg]; exact Nat.ne_of_lt (blk_lt (g := gb102) (o := .cells #[.slice A1_0 l1_0.length c1_0, .int .i64 a1_1, .int .i64 a1_2] 26 (0, 0)) F2_) : gb102 ≠ gb134))
              have n13_ := Aside0.mk ((by rw [hg]; exact Nat.ne_of_gt (blk_lt (g := gb102) (o := .cells #[.slice A1_0 l1_0.length c1_0, .int .i64 a1_1, .int .i64 a1_2] 26 (0, 0)) F2_) : gb134 ≠ gb102))
              have n14_ := Aside0.mk ((by rw [hg]; exact Nat.ne_of_lt (blk_lt (g := gb103) (o := .cells #[.int .u64 a2_0, .int .u64 a2_1, .int .u64 a2_2, .int .u64 a2_3] 33 (0, 0)) F3_) : gb103 ≠ gb134))
              have n15_ := Aside0.mk ((by rw [hg]; exact Nat.ne_of_gt (blk_lt (g := gb103) (o := .cells #[.int .u64 a2_0, .int .u64 a2_1, .int .u64 a2_2, .int .u64 a2_3] 33 (0, 0)) F3_) : gb134 ≠ gb103))
              have n16_ := Aside0.mk ((by rw [hg]; exact Nat.ne_of_lt (blk_lt (g := gb117) (o := .cells #[.int .u64 t112, .int .u64 t113, .int .u64 t114, .int .u64 t115] 33 (0, 0)) F6_) : gb117 ≠ gb134))
              have n17_ := Aside0.mk ((by rw [hg]; exact Nat.ne_of_gt (blk_lt (g := gb117) (o := .cells #[.int .u64 t112, .int .u64 t113, .int .u64 t114, .int .u64 t115] 33 (0, 0)) F6_) : gb134 ≠ gb117))
              have n18_ := Aside0.mk ((by rw [hg]; exact Nat.ne_of_lt (blk_lt (g := gb123) (o := .cells #[.int .u64 t118, .int .u64 t119, .int .u64 t120, .int .u64 t121] 33 (0, 0)) F8_) : gb123 ≠ gb134))
              have n19_ := Aside0.mk ((by rw [hg]; exact Nat.ne_of_gt (blk_lt (g := gb123) (o := .cells #[.int .u64 t118, .int .u64 t119, .int .u64 t120, .int .u64 t121] 33 (0, 0)) F8_) : gb134 ≠ gb123))
              clear HO_9
              clear BK101
              clear BK102
              clear BK103
              clear BK117
              clear BK123
              clear HB
              have HO_9 := n0_
              have BK101 := n1_
              have BK102 := n2_
              have BK103 := n3_
              have BK117 := n4_
              have BK123 := n5_
              have HB := n6_
              have BK134 := n7_
              have GW134 := n8_
              have GE134 := n9_
              have NB101_134 := n10_
              have NB134_101 := n11_
              have NB102_134 := n12_
              have NB134_102 := n13_
              have NB103_134 := n14_
              have NB134_103 := n15_
              have NB117_134 := n16_
              have NB134_117 := n17_
              have NB123_134 := n18_
              have NB134_123 := n19_
              clear n0_ n1_ n2_ n3_ n4_ n5_ n6_ n7_ n8_ n9_ n10_ n11_ n12_ n13_ n14_ n15_ n16_ n17_ n18_ n19_
              clear hb hbox hg
              refine hK.out _ _ ⟨(blk_cell BK101.out 0).trans rfl, (blk_cell BK101.out 1).trans rfl, (blk_cell BK101.out 2).trans rfl, (blk_cell BK102.out 0).trans rfl, (blk_cell BK102.out 1).trans rfl, (blk_cell BK102.out 2).trans rfl, HS6_⟩ (fun hHeld => ?_)
              clear hK K
              refine norm_ (a' := ?_) ?_ ?_
              rotate_left
              ·show Act.put _ (some 15) _ = _
               simp only [Act.put, List.setIfInBounds_toArray, List.set_cons_zero, List.set_cons_succ, i64_w, i32_w]
               rfl
              exact norm_ F35_ (hCont (gb134) _ ⟨hHeld, F15_, F1_, F2_, F3_, F6_, F8_, F17_, GW134.out, GE134.out, NB101_134.out, NB134_101.out, NB102_134.out, NB134_102.out, NB103_134.out, NB134_103.out, NB117_134.out, NB134_117.out, NB123_134.out, NB134_123.out, F4_⟩)
             ·skip
              refine box_step ?hg (N := 15) ?hd (cs := #[.int .u64 0, .int .u64 0, .int .u64 0, .int .u64 0]) (t := 33) ?hr ?_; (case hd => rfl); (case hg => rfl); (case hr => first | (go_simp; done) | (go_simp; rfl))
              intro gb134 hg w193 hbox hb
              have HS6_ := (hb.cell (World.block_lt_of_cell? _ _ (hHeld.2.2.2.2.2.2))).trans (hHeld.2.2.2.2.2.2)
              have n0_ := Aside0.mk (Kd.R_below F15_ hb)
              have n1_ := Aside0.mk (blk_below (g := gb101) (o := .cells #[.slice A0_0 l0_0.length c0_0, .slice A0_1 l0_1.length c0_1, .slice A0_2 l0_2.length c0_2] 96 (0, 0)) F1_ hb)
              have n2_ := Aside0.mk (blk_below (g := gb102) (o := .cells #[.slice A1_0 l1_0.length c1_0, .int .i64 a1_1, .int .i64 a1_2] 26 (0, 0)) F2_ hb)
              have n3_ := Aside0.mk (blk_below (g := gb103) (o := .cells #[.int .u64 a2_0, .int .u64 a2_1, .int .u64 a2_2, .int .u64 a2_3] 33 (0, 0)) F3_ hb)
              have n4_ := Aside0.mk (blk_below (g := gb117) (o := .cells #[.int .u64 t112, .int .u64 t113, .int .u64 t114, .int .u64 t115] 33 (0, 0)) F6_ hb)
              have n5_ := Aside0.mk (blk_below (g := gb123) (o := .cells #[.int .u64 t118, .int .u64 t119, .int .u64 t120, .int .u64 t121] 33 (0, 0)) F8_ hb)
              have n6_ := Aside0.mk (below_step F5_ hb)
              have n7_ := Aside0.mk (hbox)
              have n8_ := Aside0.mk ((by rw [hg]; exact (below_size F5_) : w.heap.size ≤ gb134))
              have n9_ := Aside0.mk ((by rw [hg]; exact (below_size F5_) : w.heap.size ≤ gb134))
              have n10_ := Aside0.mk ((by rw [hg]; exact Nat.ne_of_lt (blk_lt (g := gb101) (o := .cells #[.slice A0_0 l0_0.length c0_0, .slice A0_1 l0_1.length c0_1, .slice A0_2 l0_2.length c0_2] 96 (0, 0)) F1_) : gb101 ≠ gb134))
              have n11_ := Aside0.mk ((by rw [hg]; exact Nat.ne_of_gt (blk_lt (g := gb101) (o := .cells #[.slice A0_0 l0_0.length c0_0, .slice A0_1 l0_1.length c0_1, .slice A0_2 l0_2.length c0_2] 96 (0, 0)) F1_) : gb134 ≠ gb101))
              have n12_ := Aside0.mk ((by rw [hg]; exact Nat.ne_of_lt (blk_lt (g := gb102) (o := .cells #[.slice A1_0 l1_0.length c1_0, .int .i64 a1_1, .int .i64 a1_2] 26 (0, 0)) F2_) : gb102 ≠ gb134))
              have n13_ := Aside0.mk ((by rw [hg]; exact Nat.ne_of_gt (blk_lt (g := gb102) (o := .cells #[.slice A1_0 l1_0.length c1_0, .int .i64 a1_1, .int .i64 a1_2] 26 (0, 0)) F2_) : gb134 ≠ gb102))
              have n14_ := Aside0.mk ((by rw [hg]; exact Nat.ne_of_lt (blk_lt (g := gb103) (o := .cells #[.int .u64 a2_0, .int .u64 a2_1, .int .u64 a2_2, .int .u64 a2_3] 33 (0, 0)) F3_) : gb103 ≠ gb134))
              have n15_ := Aside0.mk ((by rw [hg]; exact Nat.ne_of_gt (blk_lt (g := gb103) (o := .cells #[.int .u64 a2_0, .int .u64 a2_1, .int .u64 a2_2, .int .u64 a2_3] 33 (0, 0)) F3_) : gb134 ≠ gb103))
              have n16_ := Aside0.mk ((by rw [hg]; exact Nat.ne_of_lt (blk_lt (g := gb117) (o := .cells #[.int .u64 t112, .int .u64 t113, .int .u64 t114, .int .u64 t115] 33 (0, 0)) F6_) : gb117 ≠ gb134))
              have n17_ := Aside0.mk ((by rw [hg]; exact Nat.ne_of_gt (blk_lt (g := gb117) (o := .cells #[.int .u64 t112, .int .u64 t113, .int .u64 t114, .int .u64 t115] 33 (0, 0)) F6_) : gb134 ≠ gb117))
              have n18_ := Aside0.mk ((by rw [hg]; exact Nat.ne_of_lt (blk_lt (g := gb123) (o := .cells #[.int .u64 t118, .int .u64 t119, .int .u64 t120, .int .u64 t121] 33 (0, 0)) F8_) : gb123 ≠ gb134))
              have n19_ := Aside0.mk ((by rw [hg]; exact Nat.ne_of_gt (blk_lt (g := gb123) (o := .cells #[.int .u64 t118, .int .u64 t119, .int .u64 t120, .int .u64 t121] 33 (0, 0)) F8_) : gb134 ≠ gb123))
              clear HO_9
              clear BK101
              clear BK102
              clear BK103
              clear BK117
              clear BK123
              clear HB
              have HO_9 := n0_
              have BK101 := n1_
              have BK102 := n2_
              have BK103 := n3_
              have BK117 := n4_
              have BK123 := n5_
              have HB := n6_
              have BK134 := n7_
              have GW134 := n8_
              have GE134 := n9_
              have NB101_134 := n10_
              have NB134_101 := n11_
              have NB102_134 := n12_
              have NB134_102 := n13_
              have NB103_134 := n14_
              have NB134_103 := n15_
              have NB117_134 := n16_
              have NB134_117 := n17_
              have NB123_134 := n18_
              have NB134_123 := n19_
              clear n0_ n1_ n2_ n3_ n4_ n5_ n6_ n7_ n8_ n9_ n10_ n11_ n12_ n13_ n14_ n15_ n16_ n17_ n18_ n19_
              clear hb hbox hg
              refine hK.out _ _ ⟨(blk_cell BK101.out 0).trans rfl, (blk_cell BK101.out 1).trans rfl, (blk_cell BK101.out 2).trans rfl, (blk_cell BK102.out 0).trans rfl, (blk_cell BK102.out 1).trans rfl, (blk_cell BK102.out 2).trans rfl, HS6_⟩ (fun hHeld => ?_)
              clear hK K
              refine norm_ (a' := ?_) ?_ ?_
              rotate_left
              ·show Act.put _ (some 15) _ = _
               simp only [Act.put, List.setIfInBounds_toArray, List.set_cons_zero, List.set_cons_succ, i64_w, i32_w]
               rfl
              refine one_ (i := 6) (N := some 94) #[true, true, true, true, true, true, true, false, false, false, true, false, false] rfl rfl (one_of HT_.out (by kernel_rfl)) (by decide) (fun K hK => ?_)
              refine goes_ Try.func72 (by kernel_rfl) rfl #[.agg #[.slice A0_0 l0_0.length c0_0, .slice A0_1 l0_1.length c0_1, .slice A0_2 l0_2.length c0_2], .agg #[.slice A1_0 l1_0.length c1_0, .int .i64 a1_1, .int .i64 a1_2], .int .i64 (rd t106 x14_2)] (by rfl) rfl rfl F10_ ?_
              with_reducible refine (room_Rest.calls k2 _ _ l0_0 _ _ l0_1 _ _ l0_2 _ _ l1_0 a1_1 a1_2 (rd t106 x14_2) t129 t130 t131 t132 none _ ?side1 ?side2 ?side3 ?side4 ?side5 ?side6 ?side7 ?side8 A122.out).mono ?_
              (case side1 => exact F11_)
              (case side2 => exact HC0_0.out)
              (case side3 => exact F12_)
              (case side4 => exact HC0_1.out)
              (case side5 => exact F13_)
              (case side6 => exact HC0_2.out)
              (case side7 => exact F14_)
              (case side8 => exact HC1_0.out)
              rintro e w194 ⟨rfl, hb⟩
              have HS6_ := (hb.cell (World.block_lt_of_cell? _ _ (hHeld.2.2.2.2.2.2))).trans (hHeld.2.2.2.2.2.2)
              refine ⟨_, rfl, ?_⟩
              have n0_ := Aside0.mk (Kd.R_below F15_ hb)
              have n1_ := Aside0.mk (blk_below (g := gb101) (o := .cells #[.slice A0_0 l0_0.length c0_0, .slice A0_1 l0_1.length c0_1, .slice A0_2 l0_2.length c0_2] 96 (0, 0)) F1_ hb)
              have n2_ := Aside0.mk (blk_below (g := gb102) (o := .cells #[.slice A1_0 l1_0.length c1_0, .int .i64 a1_1, .int .i64 a1_2] 26 (0, 0)) F2_ hb)
              have n3_ := Aside0.mk (blk_below (g := gb103) (o := .cells #[.int .u64 a2_0, .int .u64 a2_1, .int .u64 a2_2, .int .u64 a2_3] 33 (0, 0)) F3_ hb)
              have n4_ := Aside0.mk (blk_below (g := gb117) (o := .cells #[.int .u64 t112, .int .u64 t113, .int .u64 t114, .int .u64 t115] 33 (0, 0)) F6_ hb)
              have n5_ := Aside0.mk (blk_below (g := gb123) (o := .cells #[.int .u64 t118, .int .u64 t119, .int .u64 t120, .int .u64 t121] 33 (0, 0)) F8_ hb)
              have n6_ := Aside0.mk (blk_below (g := gb134) (o := .cells #[.int .u64 0, .int .u64 0, .int .u64 0, .int .u64 0] 33 (0, 0)) F17_ hb)
              have n7_ := Aside0.mk (below_step F4_ hb)
              clear HO_9
              clear BK101
              clear BK102
              clear BK103
              clear BK117
              clear BK123
              clear BK134
              clear HB
              have HO_9 := n0_
              have BK101 := n1_
              have BK102 := n2_
              have BK103 := n3_
              have BK117 := n4_
              have BK123 := n5_
              have BK134 := n6_
              have HB := n7_
              clear n0_ n1_ n2_ n3_ n4_ n5_ n6_ n7_
              (try clear hb)
              (try clear hb2)
              (try clear hk)
              (try clear hi)
              (try simp only [errW_none, errW_some])
              refine hK.out _ _ ⟨(blk_cell BK101.out 0).trans rfl, (blk_cell BK101.out 1).trans rfl, (blk_cell BK101.out 2).trans rfl, (blk_cell BK102.out 0).trans rfl, (blk_cell BK102.out 1).trans rfl, (blk_cell BK102.out 2).trans rfl, HS6_⟩ (fun hHeld => ?_)
              clear hK K
              refine norm_ (a' := ?_) ?_ ?_
              rotate_left
              ·show Act.put _ (some 94) _ = _
               simp only [Act.put, List.setIfInBounds_toArray, List.set_cons_zero, List.set_cons_succ, i64_w, i32_w]
               rfl
              refine pure_ (i := 7) (N := some 87) (v := ?_) (a' := ?_) #[true, true, true, true, true, true, true, true, false, false, true, false, false] rfl rfl (any_of HT_.out (by kernel_rfl)) (fun _ _ _ h => h) (Or.inl ⟨by rfl, ?_⟩) ?_ ?_
              rotate_left
              ·intro w'
               go_simp
               with_reducible rfl
              rotate_left
              ·simp only [Act.put, List.setIfInBounds_toArray, List.set_cons_zero, List.set_cons_succ, i64_w, i32_w]
               rfl
              refine pure_ (i := 8) (N := some 95) (v := ?_) (a' := ?_) #[true, true, true, true, true, true, true, true, true, false, true, false, false] rfl rfl (any_of HT_.out (by kernel_rfl)) (fun _ _ _ h => h) (Or.inl ⟨by rfl, ?_⟩) ?_ ?_
              rotate_left
              ·intro w'
               go_simp
               with_reducible rfl
              rotate_left
              ·simp only [Act.put, List.setIfInBounds_toArray, List.set_cons_zero, List.set_cons_succ, i64_w, i32_w]
               rfl
              refine pure_ (i := 9) (N := some 96) (v := ?_) (a' := ?_) #[true, true, true, true, true, true, true, true, true, true, true, false, false] rfl rfl (any_of HT_.out (by kernel_rfl)) (fun _ _ _ h => h) (Or.inl ⟨by rfl, ?_⟩) ?_ ?_
              rotate_left
              ·intro w'
               go_simp
               with_reducible rfl
              rotate_left
              ·simp only [Act.put, List.setIfInBounds_toArray, List.set_cons_zero, List.set_cons_succ, i64_w, i32_w]
               rfl
              exact norm_ F35_ (hCont (gb134) _ ⟨hHeld, F15_, F1_, F2_, F3_, F6_, F8_, F17_, GW134.out, GE134.out, NB101_134.out, NB134_101.out, NB102_134.out, NB134_102.out, NB103_134.out, NB134_103.out, NB117_134.out, NB134_117.out, NB123_134.out, NB134_123.out, F4_⟩)
            rintro gb134 w195 ⟨hS_, h0_, h1_, h2_, h3_, h4_, h5_, h6_, h7_, h8_, h9_, h10_, h11_, h12_, h13_, h14_, h15_, h16_, h17_, h18_, h19_⟩
            have n0_ : Aside0 (Kd.R (Kd.int .i64) 3 w195 w.heap.size (fun _ => True) (.slice (some ad128) t106.length co88) t106) := ⟨h0_⟩
            have n1_ : Aside0 (w195.heap[gb101]? = some (.cells #[.slice A0_0 l0_0.length c0_0, .slice A0_1 l0_1.length c0_1, .slice A0_2 l0_2.length c0_2] 96 (0, 0))) := ⟨h1_⟩
            have n2_ : Aside0 (w195.heap[gb102]? = some (.cells #[.slice A1_0 l1_0.length c1_0, .int .i64 a1_1, .int .i64 a1_2] 26 (0, 0))) := ⟨h2_⟩
            have n3_ : Aside0 (w195.heap[gb103]? = some (.cells #[.int .u64 a2_0, .int .u64 a2_1, .int .u64 a2_2, .int .u64 a2_3] 33 (0, 0))) := ⟨h3_⟩
            have n4_ : Aside0 (w195.heap[gb117]? = some (.cells #[.int .u64 t112, .int .u64 t113, .int .u64 t114, .int .u64 t115] 33 (0, 0))) := ⟨h4_⟩
            have n5_ : Aside0 (w195.heap[gb123]? = some (.cells #[.int .u64 t118, .int .u64 t119, .int .u64 t120, .int .u64 t121] 33 (0, 0))) := ⟨h5_⟩
            have n6_ : Aside0 (w195.heap[gb134]? = some (.cells #[.int .u64 0, .int .u64 0, .int .u64 0, .int .u64 0] 33 (0, 0))) := ⟨h6_⟩
            have n7_ : Aside0 (w.heap.size ≤ gb134) := ⟨h7_⟩
            have n8_ : Aside0 (w.heap.size ≤ gb134) := ⟨h8_⟩
            have n9_ : Aside0 (gb101 ≠ gb134) := ⟨h9_⟩
            have n10_ : Aside0 (gb134 ≠ gb101) := ⟨h10_⟩
            have n11_ : Aside0 (gb102 ≠ gb134) := ⟨h11_⟩
            have n12_ : Aside0 (gb134 ≠ gb102) := ⟨h12_⟩
            have n13_ : Aside0 (gb103 ≠ gb134) := ⟨h13_⟩
            have n14_ : Aside0 (gb134 ≠ gb103) := ⟨h14_⟩
            have n15_ : Aside0 (gb117 ≠ gb134) := ⟨h15_⟩
            have n16_ : Aside0 (gb134 ≠ gb117) := ⟨h16_⟩
            have n17_ : Aside0 (gb123 ≠ gb134) := ⟨h17_⟩
            have n18_ : Aside0 (gb134 ≠ gb123) := ⟨h18_⟩
            have n19_ : Aside0 (Below w.heap.size w w195) := ⟨h19_⟩
            clear HO_9
            clear BK101
            clear BK102
            clear BK103
            clear BK117
            clear BK123
            clear HB
            clear h0_ h1_ h2_ h3_ h4_ h5_ h6_ h7_ h8_ h9_ h10_ h11_ h12_ h13_ h14_ h15_ h16_ h17_ h18_ h19_
            have HO_9 := n0_
            have BK101 := n1_
            have BK102 := n2_
            have BK103 := n3_
            have BK117 := n4_
            have BK123 := n5_
            have BK134 := n6_
            have GW134 := n7_
            have GE134 := n8_
            have NB101_134 := n9_
            have NB134_101 := n10_
            have NB102_134 := n11_
            have NB134_102 := n12_
            have NB103_134 := n13_
            have NB134_103 := n14_
            have NB117_134 := n15_
            have NB134_117 := n16_
            have NB123_134 := n17_
            have NB134_123 := n18_
            have HB := n19_
            clear n0_ n1_ n2_ n3_ n4_ n5_ n6_ n7_ n8_ n9_ n10_ n11_ n12_ n13_ n14_ n15_ n16_ n17_ n18_ n19_
            have hHeld : w195.cell? ⟨gb101, 0, none⟩ = some (.slice A0_0 l0_0.length c0_0) ∧ w195.cell? ⟨gb101, 1, none⟩ = some (.slice A0_1 l0_1.length c0_1) ∧ w195.cell? ⟨gb101, 2, none⟩ = some (.slice A0_2 l0_2.length c0_2) ∧ w195.cell? ⟨gb102, 0, none⟩ = some (.slice A1_0 l1_0.length c1_0) ∧ w195.cell? ⟨gb102, 1, none⟩ = some (.int .i64 a1_1) ∧ w195.cell? ⟨gb102, 2, none⟩ = some (.int .i64 a1_2) ∧ w195.cell? (ad128.add (x14_2).toNat) = some (.int .i64 (rd t106 x14_2)) := hS_
            refine norm_ (a' := ?_) ?_ ?_
            rotate_left
            ·simp only [putAll, Act.put, List.setIfInBounds_toArray, List.set_cons_zero, List.set_cons_succ]
             rfl
            refine one_ (i := 11) (N := none) #[true, true, true, true, true, true, true, true, true, true, true, true, false] rfl rfl (one_of HT_.out (by kernel_rfl)) (by decide) (fun K hK => ?_)
            have hs196 : w195.cell? ⟨gb134, 0, none⟩ = some (.int .u64 0) := (blk_cell BK134.out 0).trans rfl
            have hfs196 := blk_frozen BK134.out 0
            have hns196_0 := NB101_134.out
            have hns196_1 := NB102_134.out
            have hns196_2 := NB103_134.out
            have hns196_3 := NB117_134.out
            have hns196_4 := NB123_134.out
            have hms196_0 := NB134_101.out
            have hms196_1 := NB134_102.out
            have hms196_2 := NB134_103.out
            have hms196_3 := NB134_117.out
            have hms196_4 := NB134_123.out
            have hs197 : w195.cell? ⟨gb134, 1, none⟩ = some (.int .u64 0) := (blk_cell BK134.out 1).trans rfl
            have hfs197 := blk_frozen BK134.out 1
            have hns197_0 := NB101_134.out
            have hns197_1 := NB102_134.out
            have hns197_2 := NB103_134.out
            have hns197_3 := NB117_134.out
            have hns197_4 := NB123_134.out
            have hms197_0 := NB134_101.out
            have hms197_1 := NB134_102.out
            have hms197_2 := NB134_103.out
            have hms197_3 := NB134_117.out
            have hms197_4 := NB134_123.out
            have hs198 : w195.cell? ⟨gb134, 2, none⟩ = some (.int .u64 0) := (blk_cell BK134.out 2).trans rfl
            have hfs198 := blk_frozen BK134.out 2
            have hns198_0 := NB101_134.out
            have hns198_1 := NB102_134.out
            have hns198_2 := NB103_134.out
            have hns198_3 := NB117_134.out
            have hns198_4 := NB123_134.out
            have hms198_0 := NB134_101.out
            have hms198_1 := NB134_102.out
            have hms198_2 := NB134_103.out
            have hms198_3 := NB134_117.out
            have hms198_4 := NB134_123.out
            have hs199 : w195.cell? ⟨gb134, 3, none⟩ = some (.int .u64 0) := (blk_cell BK134.out 3).trans rfl
            have hfs199 := blk_frozen BK134.out 3
            have hns199_0 := NB101_134.out
            have hns199_1 := NB102_134.out
            have hns199_2 := NB103_134.out
            have hns199_3 := NB117_134.out
            have hns199_4 := NB123_134.out
            have hms199_0 := NB134_101.out
            have hms199_1 := NB134_102.out
            have hms199_2 := NB134_103.out
            have hms199_3 := NB134_117.out
            have hms199_4 := NB134_123.out
            refine skip_ (w1 := ?_) (by rfl) rfl ?_ ?_
            rotate_left
            ·go_simp
             rfl
            refine hK.out _ _ ⟨((cell_far (p := ⟨gb134, _, none⟩) NB101_134.out _).trans (((cell_far (p := ⟨gb134, _, none⟩) NB101_134.out _).trans (((cell_far (p := ⟨gb134, _, none⟩) NB101_134.out _).trans (((cell_far (p := ⟨gb134, _, none⟩) NB101_134.out _).trans (hHeld.1)))))))), ((cell_far (p := ⟨gb134, _, none⟩) NB101_134.out _).trans (((cell_far (p := ⟨gb134, _, none⟩) NB101_134.out _).trans (((cell_far (p := ⟨gb134, _, none⟩) NB101_134.out _).trans (((cell_far (p := ⟨gb134, _, none⟩) NB101_134.out _).trans (hHeld.2.1)))))))), ((cell_far (p := ⟨gb134, _, none⟩) NB101_134.out _).trans (((cell_far (p := ⟨gb134, _, none⟩) NB101_134.out _).trans (((cell_far (p := ⟨gb134, _, none⟩) NB101_134.out _).trans (((cell_far (p := ⟨gb134, _, none⟩) NB101_134.out _).trans (hHeld.2.2.1)))))))), ((cell_far (p := ⟨gb134, _, none⟩) NB102_134.out _).trans (((cell_far (p := ⟨gb134, _, none⟩) NB102_134.out _).trans (((cell_far (p := ⟨gb134, _, none⟩) NB102_134.out _).trans (((cell_far (p := ⟨gb134, _, none⟩) NB102_134.out _).trans (hHeld.2.2.2.1)))))))), ((cell_far (p := ⟨gb134, _, none⟩) NB102_134.out _).trans (((cell_far (p := ⟨gb134, _, none⟩) NB102_134.out _).trans (((cell_far (p := ⟨gb134, _, none⟩) NB102_134.out _).trans (((cell_far (p := ⟨gb134, _, none⟩) NB102_134.out _).trans (hHeld.2.2.2.2.1)))))))), ((cell_far (p := ⟨gb134, _, none⟩) NB102_134.out _).trans (((cell_far (p := ⟨gb134, _, none⟩) NB102_134.out _).trans (((cell_far (p := ⟨gb134, _, none⟩) NB102_134.out _).trans (((cell_far (p := ⟨gb134, _, none⟩) NB102_134.out _).trans (hHeld.2.2.2.2.2.1)))))))), ((cell_far (p := ⟨gb134, _, none⟩) F9_ _).trans (((cell_far (p := ⟨gb134, _, none⟩) F9_ _).trans (((cell_far (p := ⟨gb134, _, none⟩) F9_ _).trans (((cell_far (p := ⟨gb134, _, none⟩) F9_ _).trans (hHeld.2.2.2.2.2.2))))))))⟩ (fun hHeld => ?_)
            clear hK K
            refine pure_ (i := 12) (N := some 16) (v := ?_) (a' := ?_) #[true, true, true, true, true, true, true, true, true, true, true, true, true] rfl rfl (any_of HT_.out (by kernel_rfl)) (fun _ _ _ h => h) (Or.inl ⟨by rfl, ?_⟩) ?_ ?_
            rotate_left
            ·intro w'
             go_simp
             with_reducible rfl
            rotate_left
            ·simp only [Act.put, List.setIfInBounds_toArray, List.set_cons_zero, List.set_cons_succ, i64_w, i32_w]
             rfl
            refine done_ (done_of HT_.out (by kernel_rfl)) ?_
            have hnb200 := NB134_101.out
            have hnc200 := NB101_134.out
            have hnb201 := NB134_102.out
            have hnc201 := NB102_134.out
            have hnb202 := NB134_103.out
            have hnc202 := NB103_134.out
            have hnb203 := NB134_117.out
            have hnc203 := NB117_134.out
            have hnb204 := NB134_123.out
            have hnc204 := NB123_134.out
            have hcz205_0 : w195.cell? ⟨gb134, 0, none⟩ = some (.int .u64 0) := (blk_cell BK134.out 0).trans rfl
            have hcz205_1 : w195.cell? ⟨gb134, 1, none⟩ = some (.int .u64 0) := (blk_cell BK134.out 1).trans rfl
            have hcz205_2 : w195.cell? ⟨gb134, 2, none⟩ = some (.int .u64 0) := (blk_cell BK134.out 2).trans rfl
            have hcz205_3 : w195.cell? ⟨gb134, 3, none⟩ = some (.int .u64 0) := (blk_cell BK134.out 3).trans rfl
            have hfz205_0 := blk_frozen BK134.out 0
            have hfz205_1 := blk_frozen BK134.out 1
            have hfz205_2 := blk_frozen BK134.out 2
            have hfz205_3 := blk_frozen BK134.out 3
            have hnb206 := NB103_101.out
            have hnc206 := NB101_103.out
            have hnb207 := NB103_102.out
            have hnc207 := NB102_103.out
            have hnb208 := NB103_117.out
            have hnc208 := NB117_103.out
            have hnb209 := NB103_123.out
            have hnc209 := NB123_103.out
            have hcz210_0 : w195.cell? ⟨gb103, 0, none⟩ = some (.int .u64 a2_0) := (blk_cell BK103.out 0).trans rfl
            have hcz210_1 : w195.cell? ⟨gb103, 1, none⟩ = some (.int .u64 a2_1) := (blk_cell BK103.out 1).trans rfl
            have hcz210_2 : w195.cell? ⟨gb103, 2, none⟩ = some (.int .u64 a2_2) := (blk_cell BK103.out 2).trans rfl
            have hcz210_3 : w195.cell? ⟨gb103, 3, none⟩ = some (.int .u64 a2_3) := (blk_cell BK103.out 3).trans rfl
            have hfz210_0 := blk_frozen BK103.out 0
            have hfz210_1 := blk_frozen BK103.out 1
            have hfz210_2 := blk_frozen BK103.out 2
            have hfz210_3 := blk_frozen BK103.out 3
            try go_wp2_with (first | ((with_reducible refine gate_callee (f := 28) rfl ?_); refine goesL_ (some 100) rfl rfl Try.func28 (by kernel_rfl) rfl #[.agg #[.int .u64 t129, .int .u64 t130, .int .u64 t131, .int .u64 t132], .agg #[.int .u64 a2_0, .int .u64 a2_1, .int .u64 a2_2, .int .u64 a2_3]] rfl F10_ ?_; (with_reducible refine (vec_Sub.calls t129 t130 t131 t132 a2_0 a2_1 a2_2 a2_3 t135 t136 t137 t138 (some q142) _ A123.out).mono ?_); rintro e w211 ⟨rfl, hb⟩; refine ⟨_, rfl, ?_⟩; have n0_ := Aside0.mk (Kd.R_below F30_ hb); have n1_ := Aside0.mk (blk_below (g := gb101) (o := .cells #[.slice A0_0 l0_0.length c0_0, .slice A0_1 l0_1.length c0_1, .slice A0_2 l0_2.length c0_2] 96 (0, 0)) F22_ hb); have n2_ := Aside0.mk (blk_below (g := gb102) (o := .cells #[.slice A1_0 l1_0.length c1_0, .int .i64 a1_1, .int .i64 a1_2] 26 (0, 0)) F23_ hb); have n3_ := Aside0.mk (blk_below (g := gb103) (o := .cells #[.int .u64 a2_0, .int .u64 a2_1, .int .u64 a2_2, .int .u64 a2_3] 33 (0, 0)) F24_ hb); have n4_ := Aside0.mk (blk_below (g := gb117) (o := .cells #[.int .u64 t112, .int .u64 t113, .int .u64 t114, .int .u64 t115] 33 (0, 0)) F25_ hb); have n5_ := Aside0.mk (blk_below (g := gb123) (o := .cells #[.int .u64 t118, .int .u64 t119, .int .u64 t120, .int .u64 t121] 33 (0, 0)) F26_ hb); have n6_ := Aside0.mk (blk_below (g := gb134) (o := .cells #[.int .u64 t129, .int .u64 t130, .int .u64 t131, .int .u64 t132] 33 (0, 0)) F18_ hb); have n7_ := Aside0.mk (below_step F4_ hb); clear HO_9; clear BK101; clear BK102; clear BK103; clear BK117; clear BK123; clear BK134; clear HB; have HO_9 := n0_; have BK101 := n1_; have BK102 := n2_; have BK103 := n3_; have BK117 := n4_; have BK123 := n5_; have BK134 := n6_; have HB := n7_; clear n0_ n1_ n2_ n3_ n4_ n5_ n6_ n7_; (try clear hb); (try clear hb2); (try clear hk); (try clear hi); (try simp only [errW_none, errW_some])) | ((with_reducible refine gate_dst (N := 17) rfl ?_); refine box_event ?hg (N := 17) ?hd (cs := #[.int .u64 0, .int .u64 0, .int .u64 0, .int .u64 0]) (t := 33) ?hr ?_; (case hd => rfl); (case hg => rfl); (case hr => first | (go_simp; done) | (go_simp; rfl)); intro gb140 hg w212 hbox hb; have n0_ := Aside0.mk (Kd.R_below F15_ hb); have n1_ := Aside0.mk (blk_below (g := gb101) (o := .cells #[.slice A0_0 l0_0.length c0_0, .slice A0_1 l0_1.length c0_1, .slice A0_2 l0_2.length c0_2] 96 (0, 0)) F1_ hb); have n2_ := Aside0.mk (blk_below (g := gb102) (o := .cells #[.slice A1_0 l1_0.length c1_0, .int .i64 a1_1, .int .i64 a1_2] 26 (0, 0)) F2_ hb); have n3_ := Aside0.mk (blk_below (g := gb103) (o := .cells #[.int .u64 a2_0, .int .u64 a2_1, .int .u64 a2_2, .int .u64 a2_3] 33 (0, 0)) F3_ hb); have n4_ := Aside0.mk (blk_below (g := gb117) (o := .cells #[.int .u64 t112, .int .u64 t113, .int .u64 t114, .int .u64 t115] 33 (0, 0)) F6_ hb); have n5_ := Aside0.mk (blk_below (g := gb123) (o := .cells #[.int .u64 t118, .int .u64 t119, .int .u64 t120, .int .u64 t121] 33 (0, 0)) F8_ hb); have n6_ := Aside0.mk (blk_below (g := gb134) (o := .cells #[.int .u64 t129, .int .u64 t130, .int .u64 t131, .int .u64 t132] 33 (0, 0)) F17_ hb); have n7_ := Aside0.mk (below_step F4_ hb); have n8_ := Aside0.mk (hbox); have n9_ := Aside0.mk ((by rw [hg]; exact (below_size F4_) : w.heap.size ≤ gb140)); have n10_ := Aside0.mk ((by rw [hg]; exact (below_size F4_) : w.heap.size ≤ gb140)); have n11_ := Aside0.mk ((by rw [hg]; exact Nat.ne_of_lt (blk_lt (g := gb101) (o := .cells #[.slice A0_0 l0_0.length c0_0, .slice A0_1 l0_1.length c0_1, .slice A0_2 l0_2.length c0_2] 96 (0, 0)) F1_) : gb101 ≠ gb140)); have n12_ := Aside0.mk ((by rw [hg]; exact Nat.ne_of_gt (blk_lt (g := gb101) (o := .cells #[.slice A0_0 l0_0.length c0_0, .slice A0_1 l0_1.length c0_1, .slice A0_2 l0_2.length c0_2] 96 (0, 0)) F1_) : gb140 ≠ gb101)); have n13_ := Aside0.mk ((by rw [hg]; exact Nat.ne_of_lt (blk_lt (g := gb102) (o := .cells #[.slice A1_0 l1_0.length c1_0, .int .i64 a1_1, .int .i64 a1_2] 26 (0, 0)) F2_) : gb102 ≠ gb140)); have n14_ := Aside0.mk ((by rw [hg]; exact Nat.ne_of_gt (blk_lt (g := gb102) (o := .cells #[.slice A1_0 l1_0.length c1_0, .int .i64 a1_1, .int .i64 a1_2] 26 (0, 0)) F2_) : gb140 ≠ gb102)); have n15_ := Aside0.mk ((by rw [hg]; exact Nat.ne_of_lt (blk_lt (g := gb103) (o := .cells #[.int .u64 a2_0, .int .u64 a2_1, .int .u64 a2_2, .int .u64 a2_3] 33 (0, 0)) F3_) : gb103 ≠ gb140)); have n16_ := Aside0.mk ((by rw [hg]; exact Nat.ne_of_gt (blk_lt (g := gb103) (o := .cells #[.int .u64 a2_0, .int .u64 a2_1, .int .u64 a2_2, .int .u64 a2_3] 33 (0, 0)) F3_) : gb140 ≠ gb103)); have n17_ := Aside0.mk ((by rw [hg]; exact Nat.ne_of_lt (blk_lt (g := gb117) (o := .cells #[.int .u64 t112, .int .u64 t113, .int .u64 t114, .int .u64 t115] 33 (0, 0)) F6_) : gb117 ≠ gb140)); have n18_ := Aside0.mk ((by rw [hg]; exact Nat.ne_of_gt (blk_lt (g := gb117) (o := .cells #[.int .u64 t112, .int .u64 t113, .int .u64 t114, .int .u64 t115] 33 (0, 0)) F6_) : gb140 ≠ gb117)); have n19_ := Aside0.mk ((by rw [hg]; exact Nat.ne_of_lt (blk_lt (g := gb123) (o := .cells #[.int .u64 t118, .int .u64 t119, .int .u64 t120, .int .u64 t121] 33 (0, 0)) F8_) : gb123 ≠ gb140)); have n20_ := Aside0.mk ((by rw [hg]; exact Nat.ne_of_gt (blk_lt (g := gb123) (o := .cells #[.int .u64 t118, .int .u64 t119, .int .u64 t120, .int .u64 t121] 33 (0, 0)) F8_) : gb140 ≠ gb123)); have n21_ := Aside0.mk ((by rw [hg]; exact Nat.ne_of_lt (blk_lt (g := gb134) (o := .cells #[.int .u64 t129, .int .u64 t130, .int .u64 t131, .int .u64 t132] 33 (0, 0)) F17_) : gb134 ≠ gb140)); have n22_ := Aside0.mk ((by rw [hg]; exact Nat.ne_of_gt (blk_lt (g := gb134) (o := .cells #[.int .u64 t129, .int .u64 t130, .int .u64 t131, .int .u64 t132] 33 (0, 0)) F17_) : gb140 ≠ gb134)); clear HO_9; clear BK101; clear BK102; clear BK103; clear BK117; clear BK123; clear BK134; clear HB; have HO_9 := n0_; have BK101 := n1_; have BK102 := n2_; have BK103 := n3_; have BK117 := n4_; have BK123 := n5_; have BK134 := n6_; have HB := n7_; have BK140 := n8_; have GW140 := n9_; have GE140 := n10_; have NB101_140 := n11_; have NB140_101 := n12_; have NB102_140 := n13_; have NB140_102 := n14_; have NB103_140 := n15_; have NB140_103 := n16_; have NB117_140 := n17_; have NB140_117 := n18_; have NB123_140 := n19_; have NB140_123 := n20_; have NB134_140 := n21_; have NB140_134 := n22_; clear n0_ n1_ n2_ n3_ n4_ n5_ n6_ n7_ n8_ n9_ n10_ n11_ n12_ n13_ n14_ n15_ n16_ n17_ n18_ n19_ n20_ n21_ n22_; clear hb hbox hg; have hnb213 := NB140_101.out; have hnc213 := NB101_140.out; have hnb214 := NB140_102.out; have hnc214 := NB102_140.out; have hnb215 := NB140_103.out; have hnc215 := NB103_140.out; have hnb216 := NB140_117.out; have hnc216 := NB117_140.out; have hnb217 := NB140_123.out; have hnc217 := NB123_140.out; have hnb218 := NB140_134.out; have hnc218 := NB134_140.out; have hcz219_0 : w212.cell? ⟨gb140, 0, none⟩ = some (.int .u64 0) := (blk_cell BK140.out 0).trans rfl; have hcz219_1 : w212.cell? ⟨gb140, 1, none⟩ = some (.int .u64 0) := (blk_cell BK140.out 1).trans rfl; have hcz219_2 : w212.cell? ⟨gb140, 2, none⟩ = some (.int .u64 0) := (blk_cell BK140.out 2).trans rfl; have hcz219_3 : w212.cell? ⟨gb140, 3, none⟩ = some (.int .u64 0) := (blk_cell BK140.out 3).trans rfl; have hfz219_0 := blk_frozen BK140.out 0; have hfz219_1 := blk_frozen BK140.out 1; have hfz219_2 := blk_frozen BK140.out 2; have hfz219_3 := blk_frozen BK140.out 3))
            go_ret
            exact ⟨F39_, F36_⟩
          ·exact L4_
         ·rw [if_neg c121] at H
          exact absurd H (by simp)
        ·rw [if_neg c120] at H
         have c120b0 : decide (x14_2 < (t106.length : Int)) = false := decide_eq_false c120
         clear c120
         obtain rfl := Option.some.inj H
         go_wp2
         go_ret
         exact ⟨F39_, F21_⟩
 ·replace c6 := Bool.eq_false_iff.mpr c6
  subst c6
  have H1 : (some t104) = some r := by rw [if_neg (show ¬ (false = true) by decide)] at H; exact H
  clear H
  have H := H1
  clear H1
  obtain rfl := Option.some.inj H
  go_enter Try.func17, Try.ntmps17
  go_wp2_with (first | ((with_reducible refine gate_dst (N := 3) rfl ?_); refine box_event ?hg (N := 3) ?hd (cs := #[.slice A0_0 l0_0.length c0_0, .slice A0_1 l0_1.length c0_1, .slice A0_2 l0_2.length c0_2]) (t := 96) ?hr ?_; (case hd => rfl); (case hg => rfl); (case hr => first | (go_simp; done) | (go_simp; rfl)); intro gb101 hg w248 hbox hb; have n0_ := Aside0.mk (below_step F27_ hb); have n1_ := Aside0.mk (hbox); have n2_ := Aside0.mk ((by rw [hg]; exact (below_size F27_) : w.heap.size ≤ gb101)); have n3_ := Aside0.mk ((by rw [hg]; exact (below_size F27_) : w.heap.size ≤ gb101)); clear HB; have HB := n0_; have BK101 := n1_; have GW101 := n2_; have GE101 := n3_; clear n0_ n1_ n2_ n3_; clear hb hbox hg) | ((with_reducible refine gate_dst (N := 4) rfl ?_); refine box_event ?hg (N := 4) ?hd (cs := #[.slice A1_0 l1_0.length c1_0, .int .i64 a1_1, .int .i64 a1_2]) (t := 26) ?hr ?_; (case hd => rfl); (case hg => rfl); (case hr => first | (go_simp; done) | (go_simp; rfl)); intro gb102 hg w249 hbox hb; have n0_ := Aside0.mk (blk_below (g := gb101) (o := .cells #[.slice A0_0 l0_0.length c0_0, .slice A0_1 l0_1.length c0_1, .slice A0_2 l0_2.length c0_2] 96 (0, 0)) F1_ hb); have n1_ := Aside0.mk (below_step F20_ hb); have n2_ := Aside0.mk (hbox); have n3_ := Aside0.mk ((by rw [hg]; exact (below_size F20_) : w.heap.size ≤ gb102)); have n4_ := Aside0.mk ((by rw [hg]; exact (below_size F20_) : w.heap.size ≤ gb102)); have n5_ := Aside0.mk ((by rw [hg]; exact Nat.ne_of_lt (blk_lt (g := gb101) (o := .cells #[.slice A0_0 l0_0.length c0_0, .slice A0_1 l0_1.length c0_1, .slice A0_2 l0_2.length c0_2] 96 (0, 0)) F1_) : gb101 ≠ gb102)); have n6_ := Aside0.mk ((by rw [hg]; exact Nat.ne_of_gt (blk_lt (g := gb101) (o := .cells #[.slice A0_0 l0_0.length c0_0, .slice A0_1 l0_1.length c0_1, .slice A0_2 l0_2.length c0_2] 96 (0, 0)) F1_) : gb102 ≠ gb101)); clear BK101; clear HB; have BK101 := n0_; have HB := n1_; have BK102 := n2_; have GW102 := n3_; have GE102 := n4_; have NB101_102 := n5_; have NB102_101 := n6_; clear n0_ n1_ n2_ n3_ n4_ n5_ n6_; clear hb hbox hg) | ((with_reducible refine gate_dst (N := 5) rfl ?_); refine box_event ?hg (N := 5) ?hd (cs := #[.int .u64 a2_0, .int .u64 a2_1, .int .u64 a2_2, .int .u64 a2_3]) (t := 33) ?hr ?_; (case hd => rfl); (case hg => rfl); (case hr => first | (go_simp; done) | (go_simp; rfl)); intro gb103 hg w250 hbox hb; have n0_ := Aside0.mk (blk_below (g := gb101) (o := .cells #[.slice A0_0 l0_0.length c0_0, .slice A0_1 l0_1.length c0_1, .slice A0_2 l0_2.length c0_2] 96 (0, 0)) F1_ hb); have n1_ := Aside0.mk (blk_below (g := gb102) (o := .cells #[.slice A1_0 l1_0.length c1_0, .int .i64 a1_1, .int .i64 a1_2] 26 (0, 0)) F2_ hb); have n2_ := Aside0.mk (below_step F16_ hb); have n3_ := Aside0.mk (hbox); have n4_ := Aside0.mk ((by rw [hg]; exact (below_size F16_) : w.heap.size ≤ gb103)); have n5_ := Aside0.mk ((by rw [hg]; exact (below_size F16_) : w.heap.size ≤ gb103)); have n6_ := Aside0.mk ((by rw [hg]; exact Nat.ne_of_lt (blk_lt (g := gb101) (o := .cells #[.slice A0_0 l0_0.length c0_0, .slice A0_1 l0_1.length c0_1, .slice A0_2 l0_2.length c0_2] 96 (0, 0)) F1_) : gb101 ≠ gb103)); have n7_ := Aside0.mk ((by rw [hg]; exact Nat.ne_of_gt (blk_lt (g := gb101) (o := .cells #[.slice A0_0 l0_0.length c0_0, .slice A0_1 l0_1.length c0_1, .slice A0_2 l0_2.length c0_2] 96 (0, 0)) F1_) : gb103 ≠ gb101)); have n8_ := Aside0.mk ((by rw [hg]; exact Nat.ne_of_lt (blk_lt (g := gb102) (o := .cells #[.slice A1_0 l1_0.length c1_0, .int .i64 a1_1, .int .i64 a1_2] 26 (0, 0)) F2_) : gb102 ≠ gb103)); have n9_ := Aside0.mk ((by rw [hg]; exact Nat.ne_of_gt (blk_lt (g := gb102) (o := .cells #[.slice A1_0 l1_0.length c1_0, .int .i64 a1_1, .int .i64 a1_2] 26 (0, 0)) F2_) : gb103 ≠ gb102)); clear BK101; clear BK102; clear HB; have BK101 := n0_; have BK102 := n1_; have HB := n2_; have BK103 := n3_; have GW103 := n4_; have GE103 := n5_; have NB101_103 := n6_; have NB103_101 := n7_; have NB102_103 := n8_; have NB103_102 := n9_; clear n0_ n1_ n2_ n3_ n4_ n5_ n6_ n7_ n8_ n9_; clear hb hbox hg) | ((with_reducible refine gate_callee (f := 63) rfl ?_); refine goesL_ (some 19) rfl rfl Try.func63 (by kernel_rfl) rfl #[] rfl F10_ ?_; (with_reducible refine (dunnagelaw14_up.calls k  t104 _ A4.out).mono ?_); rintro e w251 ⟨rfl, hb⟩; refine ⟨_, rfl, ?_⟩; have n0_ := Aside0.mk (blk_below (g := gb101) (o := .cells #[.slice A0_0 l0_0.length c0_0, .slice A0_1 l0_1.length c0_1, .slice A0_2 l0_2.length c0_2] 96 (0, 0)) F1_ hb); have n1_ := Aside0.mk (blk_below (g := gb102) (o := .cells #[.slice A1_0 l1_0.length c1_0, .int .i64 a1_1, .int .i64 a1_2] 26 (0, 0)) F2_ hb); have n2_ := Aside0.mk (blk_below (g := gb103) (o := .cells #[.int .u64 a2_0, .int .u64 a2_1, .int .u64 a2_2, .int .u64 a2_3] 33 (0, 0)) F3_ hb); have n3_ := Aside0.mk (below_step F7_ hb); clear BK101; clear BK102; clear BK103; clear HB; have BK101 := n0_; have BK102 := n1_; have BK103 := n2_; have HB := n3_; clear n0_ n1_ n2_ n3_; (try clear hb); (try clear hb2); (try clear hk); (try clear hi); have hnb252 := NB101_102.out; have hnc252 := NB102_101.out; have hnb253 := NB101_103.out; have hnc253 := NB103_101.out; have hcz254_0 : w251.cell? ⟨gb101, 0, none⟩ = some (.slice A0_0 l0_0.length c0_0) := (blk_cell BK101.out 0).trans rfl; have hcz254_1 : w251.cell? ⟨gb101, 1, none⟩ = some (.slice A0_1 l0_1.length c0_1) := (blk_cell BK101.out 1).trans rfl; have hcz254_2 : w251.cell? ⟨gb101, 2, none⟩ = some (.slice A0_2 l0_2.length c0_2) := (blk_cell BK101.out 2).trans rfl; have hfz254_0 := blk_frozen BK101.out 0; have hfz254_1 := blk_frozen BK101.out 1; have hfz254_2 := blk_frozen BK101.out 2; have hnb255 := NB102_103.out; have hnc255 := NB103_102.out; have hcz256_0 : w251.cell? ⟨gb102, 0, none⟩ = some (.slice A1_0 l1_0.length c1_0) := (blk_cell BK102.out 0).trans rfl; have hcz256_1 : w251.cell? ⟨gb102, 1, none⟩ = some (.int .i64 a1_1) := (blk_cell BK102.out 1).trans rfl; have hcz256_2 : w251.cell? ⟨gb102, 2, none⟩ = some (.int .i64 a1_2) := (blk_cell BK102.out 2).trans rfl; have hfz256_0 := blk_frozen BK102.out 0; have hfz256_1 := blk_frozen BK102.out 1; have hfz256_2 := blk_frozen BK102.out 2) | ((with_reducible refine gate_callee (f := 60) rfl ?_); refine goesL_ (some 23) rfl rfl Try.func60 (by kernel_rfl) rfl #[.agg #[.slice A0_0 l0_0.length c0_0, .slice A0_1 l0_1.length c0_1, .slice A0_2 l0_2.length c0_2], .agg #[.slice none 0 0, .int .i64 0, .int .i64 0], .agg #[.slice A1_0 l1_0.length c1_0, .int .i64 a1_1, .int .i64 a1_2]] rfl F10_ ?_; (refine (dunnageref05_Few.calls _ _ l0_0 _ _ l0_1 _ _ l0_2 _ _ ([] : List (S185)) 0 0 _ _ l1_0 a1_1 a1_2 false _ ?side1 ?side2 ?side3 ?side4 ?side5 ?side6 ?side7 ?side8 ?side9 ?side10 A5.out).mono ?_); (case side1 => exact F11_); (case side2 => exact HC0_0.out); (case side3 => exact F12_); (case side4 => exact HC0_1.out); (case side5 => exact F13_); (case side6 => exact HC0_2.out); (case side7 => exact Kd.C_nil _ _); (case side8 => exact Nat.le_refl _); (case side9 => exact F14_); (case side10 => exact HC1_0.out); rintro e w257 ⟨rfl, hb⟩; refine ⟨_, rfl, ?_⟩; have n0_ := Aside0.mk (blk_below (g := gb101) (o := .cells #[.slice A0_0 l0_0.length c0_0, .slice A0_1 l0_1.length c0_1, .slice A0_2 l0_2.length c0_2] 96 (0, 0)) F1_ hb); have n1_ := Aside0.mk (blk_below (g := gb102) (o := .cells #[.slice A1_0 l1_0.length c1_0, .int .i64 a1_1, .int .i64 a1_2] 26 (0, 0)) F2_ hb); have n2_ := Aside0.mk (blk_below (g := gb103) (o := .cells #[.int .u64 a2_0, .int .u64 a2_1, .int .u64 a2_2, .int .u64 a2_3] 33 (0, 0)) F3_ hb); have n3_ := Aside0.mk (below_step F7_ hb); clear BK101; clear BK102; clear BK103; clear HB; have BK101 := n0_; have BK102 := n1_; have BK103 := n2_; have HB := n3_; clear n0_ n1_ n2_ n3_; (try clear hb); (try clear hb2); (try clear hk); (try clear hi)))
  go_ret
  exact ⟨F39_, F40_⟩

end Go.Proofs.Ytppfkbigeknedaa.Q
