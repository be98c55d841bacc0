import Derived.Test.YtppfkbigeknedaaKQ0
import Derived.Test.YtppfkbigeknedaaKQdunnageref04small
namespace Go.Proofs.Ytppfkbigeknedaa.Q
open Go.RowKit Go.Proofs.YtppfkbigeknedaaW.PrintWords Go.Proofs.YtppfkbigeknedaaW.PrintLast Go.Proofs.YtppfkbigeknedaaW.PrintMore
attribute [local go_sem] max2_int min2_int max_two min_two max_three min_three max_four min_four   -- for this text's walks alone
set_option linter.unusedVariables false
set_option linter.unusedSimpArgs false

attribute [local go_sem] eqe_ii eqe_nn eqe_ni eqe_nni
namespace FoldQdunnageref04Moves
theorem F1_ {p : Prop} (h : p := by (try simp only [List.map_toArray, List.map_cons, List.map_nil]); first | done | rfl | (simp only [List.length_drop, List.length_take]; rfl)) : p := h
theorem F2_ {p : Prop} (h : p := by first | (with_reducible assumption) | assumption) : p := h
theorem F3_ {p : Prop} (h : p := by repeat (first | (with_reducible first | exact HB.out | apply below_alloc | apply pw_below_drewN | apply below_drew1) | exact HB.out)) : p := h
theorem F4_ {p : Prop} (h : p := by first | exact Kd.R_nil _ _ _ _ _ | exact Kd.N_nil _ _ _ _ _ | exact Kd.V_nil _ _ _ _ _ | exact Kd.Q_nil _ _ _ _ _ | exact Kd.S_nil _ _ _ _ _) : p := h
theorem F5_ {p : Prop} (h : p := by first | rfl | (simp [errW_none, errW_some] <;> rfl) | (simp [*, errW_none, errW_some] <;> rfl)) : p := h
theorem F6_ {p : Prop} (h : p := by (with_reducible repeat (first | apply Kd.R_alloc | apply Kd.R_drewN | apply Kd.R_drew)); exact HO_4.out) : p := h
end FoldQdunnageref04Moves
open FoldQdunnageref04Moves
def dunnageref04_Moves.l0 : Nat → List (S130) → List Int → Int → Option (List Int × Bool)
  | 0, _, _, _ => none
  | k + 1, x0, x4, x5 => if x5 < (x0.length : Int) then (if 0 ≤ x5 then ((dunnageref04_small.f ((rd_T130 x0 x5).f0)).bind fun t105 => ((dunnageref04_small.f ((rd_T130 x0 x5).f1)).bind fun t107 => ((dunnageref04_small.f ((rd_T130 x0 x5).f2)).bind fun t109 => ((dunnageref04_small.f ((rd_T130 x0 x5).f3)).bind fun t111 => (if t105 = true then (if t107 = true then (if t109 = true then (if t111 = true then ((some (([IntKind.u64.wrap ((rd_T130 x0 x5).f0), IntKind.u64.wrap ((rd_T130 x0 x5).f1), IntKind.u64.wrap ((rd_T130 x0 x5).f2), IntKind.u64.wrap ((rd_T130 x0 x5).f3)] : List Int) : List Int)).bind fun y116 => (if x4.length + y116.length < 17592186044416 then (dunnageref04_Moves.l0 k x0 (x4 ++ y116) (wrap64 (x5 + 1))) else (none))) else (some (([] : List Int), false))) else (some (([] : List Int), false))) else (some (([] : List Int), false))) else (some (([] : List Int), false))))))) else (none)) else (some (x4, true))
def dunnageref04_Moves.f (k : Nat) (l0 : List (S130)) : Option (List Int × Bool) := if (l0.length : Int) > 40 then (some (([] : List Int), false)) else (dunnageref04_Moves.l0 k l0 (([IntKind.u64.wrap ((l0.length : Int))] : List Int)) 0)
theorem dunnageref04_Moves.mono_l : ∀ k, (∀ y0 y1 y2, LeO (dunnageref04_Moves.l0 k y0 y1 y2) (dunnageref04_Moves.l0 (k + 1) y0 y1 y2))
  | 0 => fun _ _ _ r h => by simp [dunnageref04_Moves.l0] at h
  | k + 1 => by
    have ih0 := dunnageref04_Moves.mono_l k
    · intro y0 y1 y2
      unfold dunnageref04_Moves.l0
      repeat' first
      | (with_reducible exact ih0 _ _ _)
      | (with_reducible exact LeO.refl _)
      | (with_reducible exact LeO.none _)
      | (with_reducible refine LeO.ite ?_ ?_)
      | (with_reducible refine LeO.bind ?_ (fun _ => ?_))
      | exact ih0 _ _ _
      | exact LeO.none _
      | refine LeO.ite ?_ ?_
      | refine LeO.bind ?_ (fun _ => ?_)
theorem dunnageref04_Moves.mono : ∀ a0 k, LeO (dunnageref04_Moves.f k a0) (dunnageref04_Moves.f (k + 1) a0) := by
  intro a0 k
  have ih0 := dunnageref04_Moves.mono_l k
  unfold dunnageref04_Moves.f
  repeat' first
      | (with_reducible exact ih0 _ _ _)
      | (with_reducible exact LeO.refl _)
      | (with_reducible exact LeO.none _)
      | (with_reducible refine LeO.ite ?_ ?_)
      | (with_reducible refine LeO.bind ?_ (fun _ => ?_))
      | exact ih0 _ _ _
      | exact LeO.none _
      | refine LeO.ite ?_ ?_
      | refine LeO.bind ?_ (fun _ => ?_)
def dunnageref04_Moves.T13 : Bool × List (List Nat × List Nat) := (true, [([], []), ([], []), ([], []), ([1, 2], [1, 2]), ([3], [3]), ([4], [4]), ([5], [5]), ([], []), ([], []), ([7, 8], [7, 8]), ([9], [9]), ([10], [10]), ([11], [11]), ([], []), ([], []), ([13, 14], [13, 14]), ([15], [15]), ([16], [16]), ([17], [17]), ([], []), ([], []), ([19, 20], [19, 20]), ([21], [21]), ([22], [22]), ([23], [23]), ([6, 12, 18, 24], [6, 12, 18, 24]), ([0, 25], [0, 25]), ([26, 26, 0, 1, 2, 3, 4, 5, 6, 7, 8, 9, 10, 11, 12, 13, 14, 15, 16, 17, 18, 19, 20, 21, 22, 23, 24, 25, 26], [0, 26])])
def dunnageref04_Moves.B13 : List Nat := [0, 0, 0, 6, 14, 30, 62, 0, 0, 384, 896, 1920, 3968, 0, 0, 24576, 57344, 122880, 253952, 0, 0, 1572864, 3670016, 7864320, 16252928, 33554430, 67108863, 134217727]
theorem dunnageref04_Moves.tab13 : rtab .any (opsOf Try.f120 13) = dunnageref04_Moves.T13 := by kernel_rfl
theorem dunnageref04_Moves.bits13 : waitsOk dunnageref04_Moves.T13.2 dunnageref04_Moves.B13 = true := by kernel_rfl
set_option maxHeartbeats 8000000 in
set_option maxRecDepth 100000 in
theorem dunnageref04_Moves.calls (k : Nat) (A0 : Option Addr) (c0 : Nat) (l0 : List (S130)) (r1 : List Int) (r2 : Bool) (w : World) (hr0 : Kd.C k130 w A0 l0.length l0) (hc0 : l0.length ≤ c0) (h : dunnageref04_Moves.f k l0 = some (r1, r2)) :
    Calls Try.prog 120 #[.slice A0 l0.length c0] w fun e w' => ∃ v0_ : Value, e = .returned (.tuple #[v0_, .bool r2]) ∧ Kd.R (Kd.int .u64) 31 w' w.heap.size (fun _ => True) v0_ r1 ∧ Below w.heap.size w w' := by
  have HR0 := Aside0.mk hr0
  have HC0 := Aside0.mk hc0
  clear hr0 hc0
  have HB := Aside0.mk (Below.refl w.heap.size w)
  have H : (if (l0.length : Int) > 40 then (some (([] : List Int), false)) else (dunnageref04_Moves.l0 k l0 (([IntKind.u64.wrap ((l0.length : Int))] : List Int)) 0)) = some (r1, r2) := h
  clear h
  by_cases c2 : (l0.length : Int) > 40
  · rw [if_pos c2] at H
    have c2b0 : decide (40 < (l0.length : Int)) = true := decide_eq_true c2
    have c2b1 : decide (40 < l0.length) = true := decide_eq_true (by omega)
    clear c2
    simp only [Option.some.injEq, Prod.mk.injEq] at H
    obtain ⟨rfl, rfl⟩ := H
    go_enter Try.func120, Try.ntmps120
    go_wp2
    go_ret2
    exact ⟨_, F5_, F4_, F3_⟩
  · rw [if_neg c2] at H
    have c2b0 : decide (40 < (l0.length : Int)) = false := decide_eq_false c2
    have c2b1 : decide (40 < l0.length) = false := decide_eq_false (by omega)
    clear c2
    obtain ⟨y101, hy101⟩ : ∃ y_ : List Int, y_ = (([IntKind.u64.wrap ((l0.length : Int))] : List Int)) := ⟨_, rfl⟩
    replace H : (dunnageref04_Moves.l0 k l0 y101 0) = some (r1, r2) := by first | (rw [hy101]; with_reducible exact H) | (have H2_ := (Option.bind_some _ _).symm.trans H; rw [hy101]; with_reducible exact H2_) | (have H2_ := (Option.bind_some _ _).symm.trans H; with_reducible exact H2_) | with_reducible exact H | (rw [hy101]; exact H) | exact H
    have Ny101 := Aside0.mk hy101
    clear hy101
    have H' := Aside0.mk H
    clear H
    go_enter Try.func120, Try.ntmps120
    go_wp2_with (first | ((with_reducible refine gate_dst (N := 16) rfl ?_); refine Kd.R_lit (Kd.int .u64) _ 31 ?hg (N := 16) ?hd (xs := ([IntKind.u64.wrap ((l0.length : Int))] : List Int)) (inner := [.int .u64 (IntKind.u64.wrap ((l0.length : Int)))]) (ok := fun _ => True) (okp := fun _ => True) ?hr ?hp (fun _ hk => hk) trivial (Below.refl _ _) (Nat.le_refl _) (by simp) ?_; (case hd => rfl); (case hg => rfl); (case hr => first | (go_simp; done) | (go_simp; rfl)); (case hp => exact (Reps.one (show Kd.M (Kd.int .u64) _ _ _ (IntKind.u64.wrap ((l0.length : Int))) [.int .u64 (IntKind.u64.wrap ((l0.length : Int)))] from rfl) (Reps.none _ _))); intro v102 w3 ho4 hb hg_ hnew_; clear hg_ hnew_; (first | rw [← Ny101.out] at ho4 | (simp only [Int.reduceToNat] at ho4; rw [← Ny101.out] at ho4)); have n0_ := Aside0.mk (Kd.R_lower ho4 (below_size (F3_))); have n1_ := Aside0.mk (below_step (F3_) hb); clear HB; have HO103 := n0_; have HB := n1_; clear n0_ n1_; clear hb ho4))
    go_loopg [4, 5] k (fun kq v4 v5 w' => ∃ (x4_1 : List Int) (x5_1 : Int), v5 = .int .i64 x5_1 ∧ Aside0 (dunnageref04_Moves.l0 kq l0 x4_1 x5_1 = some (r1, r2)) ∧ Aside0 (kq ≤ k) ∧ Aside0 (Kd.R (Kd.int .u64) 31 w' w.heap.size (fun _ => True) v4 x4_1) ∧ Aside0 (Below w.heap.size w w'))
    case atStart => exact ⟨(y101), (0), (by first | rfl | (simp; done) | (simp [*]; done)), H', ⟨Nat.le_refl _⟩, ⟨by (with_reducible repeat (first | apply Kd.R_alloc | apply Kd.R_drewN | apply Kd.R_drew)); exact HO103.out⟩, ⟨F3_⟩⟩
    case round =>
      clear H'
      try clear c1
      try clear c2
      try clear c2b0
      try clear c2b1
      try clear p2
      obtain ⟨x4_1, x5_1, rfl, HA, HK1, HO_4, HB⟩ := hrel
      cases gk with
      | zero => exact absurd HA.out (by simp [dunnageref04_Moves.l0])
      | succ k1 =>
        have H := HA.out
        clear HA
        simp only [dunnageref04_Moves.l0] at H
        by_cases c5 : x5_1 < (l0.length : Int)
        · rw [if_pos c5] at H
          have c5b0 : decide (x5_1 < (l0.length : Int)) = true := decide_eq_true c5
          clear c5
          by_cases c6 : 0 ≤ x5_1
          · rw [if_pos c6] at H
            have c6b0 : decide (0 ≤ x5_1) = true := decide_eq_true c6
            clear c6
            replace H := Option.bind_eq_some_iff.mp H
            obtain ⟨t105, A70, H⟩ := H
            replace H : ((dunnageref04_small.f ((rd_T130 l0 x5_1).f1)).bind fun t107 => ((dunnageref04_small.f ((rd_T130 l0 x5_1).f2)).bind fun t109 => ((dunnageref04_small.f ((rd_T130 l0 x5_1).f3)).bind fun t111 => (if t105 = true then (if t107 = true then (if t109 = true then (if t111 = true then ((some (([IntKind.u64.wrap ((rd_T130 l0 x5_1).f0), IntKind.u64.wrap ((rd_T130 l0 x5_1).f1), IntKind.u64.wrap ((rd_T130 l0 x5_1).f2), IntKind.u64.wrap ((rd_T130 l0 x5_1).f3)] : List Int) : List Int)).bind fun y116 => (if x4_1.length + y116.length < 17592186044416 then (dunnageref04_Moves.l0 k1 l0 (x4_1 ++ y116) (wrap64 (x5_1 + 1))) else (none))) else (some (([] : List Int), false))) else (some (([] : List Int), false))) else (some (([] : List Int), false))) else (some (([] : List Int), false)))))) = some (r1, r2) := H
            have A7 := Aside0.mk A70
            clear A70
            replace H := Option.bind_eq_some_iff.mp H
            obtain ⟨t107, A80, H⟩ := H
            replace H : ((dunnageref04_small.f ((rd_T130 l0 x5_1).f2)).bind fun t109 => ((dunnageref04_small.f ((rd_T130 l0 x5_1).f3)).bind fun t111 => (if t105 = true then (if t107 = true then (if t109 = true then (if t111 = true then ((some (([IntKind.u64.wrap ((rd_T130 l0 x5_1).f0), IntKind.u64.wrap ((rd_T130 l0 x5_1).f1), IntKind.u64.wrap ((rd_T130 l0 x5_1).f2), IntKind.u64.wrap ((rd_T130 l0 x5_1).f3)] : List Int) : List Int)).bind fun y116 => (if x4_1.length + y116.length < 17592186044416 then (dunnageref04_Moves.l0 k1 l0 (x4_1 ++ y116) (wrap64 (x5_1 + 1))) else (none))) else (some (([] : List Int), false))) else (some (([] : List Int), false))) else (some (([] : List Int), false))) else (some (([] : List Int), false))))) = some (r1, r2) := H
            have A8 := Aside0.mk A80
            clear A80
            replace H := Option.bind_eq_some_iff.mp H
            obtain ⟨t109, A90, H⟩ := H
            replace H : ((dunnageref04_small.f ((rd_T130 l0 x5_1).f3)).bind fun t111 => (if t105 = true then (if t107 = true then (if t109 = true then (if t111 = true then ((some (([IntKind.u64.wrap ((rd_T130 l0 x5_1).f0), IntKind.u64.wrap ((rd_T130 l0 x5_1).f1), IntKind.u64.wrap ((rd_T130 l0 x5_1).f2), IntKind.u64.wrap ((rd_T130 l0 x5_1).f3)] : List Int) : List Int)).bind fun y116 => (if x4_1.length + y116.length < 17592186044416 then (dunnageref04_Moves.l0 k1 l0 (x4_1 ++ y116) (wrap64 (x5_1 + 1))) else (none))) else (some (([] : List Int), false))) else (some (([] : List Int), false))) else (some (([] : List Int), false))) else (some (([] : List Int), false)))) = some (r1, r2) := H
            have A9 := Aside0.mk A90
            clear A90
            replace H := Option.bind_eq_some_iff.mp H
            obtain ⟨t111, A100, H⟩ := H
            replace H : (if t105 = true then (if t107 = true then (if t109 = true then (if t111 = true then ((some (([IntKind.u64.wrap ((rd_T130 l0 x5_1).f0), IntKind.u64.wrap ((rd_T130 l0 x5_1).f1), IntKind.u64.wrap ((rd_T130 l0 x5_1).f2), IntKind.u64.wrap ((rd_T130 l0 x5_1).f3)] : List Int) : List Int)).bind fun y116 => (if x4_1.length + y116.length < 17592186044416 then (dunnageref04_Moves.l0 k1 l0 (x4_1 ++ y116) (wrap64 (x5_1 + 1))) else (none))) else (some (([] : List Int), false))) else (some (([] : List Int), false))) else (some (([] : List Int), false))) else (some (([] : List Int), false))) = some (r1, r2) := H
            have A10 := Aside0.mk A100
            clear A100
            by_cases c11 : t105 = true
            · subst c11
              have H1 : (if t107 = true then (if t109 = true then (if t111 = true then ((some (([IntKind.u64.wrap ((rd_T130 l0 x5_1).f0), IntKind.u64.wrap ((rd_T130 l0 x5_1).f1), IntKind.u64.wrap ((rd_T130 l0 x5_1).f2), IntKind.u64.wrap ((rd_T130 l0 x5_1).f3)] : List Int) : List Int)).bind fun y116 => (if x4_1.length + y116.length < 17592186044416 then (dunnageref04_Moves.l0 k1 l0 (x4_1 ++ y116) (wrap64 (x5_1 + 1))) else (none))) else (some (([] : List Int), false))) else (some (([] : List Int), false))) else (some (([] : List Int), false))) = some (r1, r2) := by rw [if_pos rfl] at H; exact H
              clear H
              have H := H1
              clear H1
              by_cases c12 : t107 = true
              · subst c12
                have H1 : (if t109 = true then (if t111 = true then ((some (([IntKind.u64.wrap ((rd_T130 l0 x5_1).f0), IntKind.u64.wrap ((rd_T130 l0 x5_1).f1), IntKind.u64.wrap ((rd_T130 l0 x5_1).f2), IntKind.u64.wrap ((rd_T130 l0 x5_1).f3)] : List Int) : List Int)).bind fun y116 => (if x4_1.length + y116.length < 17592186044416 then (dunnageref04_Moves.l0 k1 l0 (x4_1 ++ y116) (wrap64 (x5_1 + 1))) else (none))) else (some (([] : List Int), false))) else (some (([] : List Int), false))) = some (r1, r2) := by rw [if_pos rfl] at H; exact H
                clear H
                have H := H1
                clear H1
                by_cases c13 : t109 = true
                · subst c13
                  have H1 : (if t111 = true then ((some (([IntKind.u64.wrap ((rd_T130 l0 x5_1).f0), IntKind.u64.wrap ((rd_T130 l0 x5_1).f1), IntKind.u64.wrap ((rd_T130 l0 x5_1).f2), IntKind.u64.wrap ((rd_T130 l0 x5_1).f3)] : List Int) : List Int)).bind fun y116 => (if x4_1.length + y116.length < 17592186044416 then (dunnageref04_Moves.l0 k1 l0 (x4_1 ++ y116) (wrap64 (x5_1 + 1))) else (none))) else (some (([] : List Int), false))) = some (r1, r2) := by rw [if_pos rfl] at H; exact H
                  clear H
                  have H := H1
                  clear H1
                  by_cases c14 : t111 = true
                  · subst c14
                    have H1 : ((some (([IntKind.u64.wrap ((rd_T130 l0 x5_1).f0), IntKind.u64.wrap ((rd_T130 l0 x5_1).f1), IntKind.u64.wrap ((rd_T130 l0 x5_1).f2), IntKind.u64.wrap ((rd_T130 l0 x5_1).f3)] : List Int) : List Int)).bind fun y116 => (if x4_1.length + y116.length < 17592186044416 then (dunnageref04_Moves.l0 k1 l0 (x4_1 ++ y116) (wrap64 (x5_1 + 1))) else (none))) = some (r1, r2) := by rw [if_pos rfl] at H; exact H
                    clear H
                    have H := H1
                    clear H1
                    obtain ⟨y116, hy116⟩ : ∃ y_ : List Int, y_ = (([IntKind.u64.wrap ((rd_T130 l0 x5_1).f0), IntKind.u64.wrap ((rd_T130 l0 x5_1).f1), IntKind.u64.wrap ((rd_T130 l0 x5_1).f2), IntKind.u64.wrap ((rd_T130 l0 x5_1).f3)] : List Int)) := ⟨_, rfl⟩
                    replace H : (if x4_1.length + y116.length < 17592186044416 then (dunnageref04_Moves.l0 k1 l0 (x4_1 ++ y116) (wrap64 (x5_1 + 1))) else (none)) = some (r1, r2) := by first | (rw [hy116]; with_reducible exact H) | (have H2_ := (Option.bind_some _ _).symm.trans H; rw [hy116]; with_reducible exact H2_) | (have H2_ := (Option.bind_some _ _).symm.trans H; with_reducible exact H2_) | with_reducible exact H | (rw [hy116]; exact H) | exact H
                    have Ny116 := Aside0.mk hy116
                    clear hy116
                    by_cases c15 : x4_1.length + y116.length < 17592186044416
                    · rw [if_pos c15] at H
                      have LMc15 := Aside0.mk c15
                      clear c15
                      obtain ⟨y119, hy119⟩ : ∃ y_ : List Int, y_ = (x4_1 ++ y116) := ⟨_, rfl⟩
                      replace H : (dunnageref04_Moves.l0 k1 l0 y119 (wrap64 (x5_1 + 1))) = some (r1, r2) := by first | (rw [hy119]; with_reducible exact H) | (have H2_ := (Option.bind_some _ _).symm.trans H; rw [hy119]; with_reducible exact H2_) | (have H2_ := (Option.bind_some _ _).symm.trans H; with_reducible exact H2_) | with_reducible exact H | (rw [hy119]; exact H) | exact H
                      have Ny119 := Aside0.mk hy119
                      clear hy119
                      have H' := Aside0.mk H
                      clear H
                      have p104 : 0 ≤ (x5_1 : Int) := of_decide_eq_true F2_
                      have q104 : x5_1 < (l0.length : Int) := of_decide_eq_true F2_
                      obtain ⟨ad104, e104, hx104_0, hx104_1, hx104_2, hx104_3⟩ := at_T130 HR0.out x5_1 p104 q104
                      cases e104
                      replace hx104_0 := (HB.out.cell (World.block_lt_of_cell? w _ hx104_0)).trans hx104_0
                      replace hx104_1 := (HB.out.cell (World.block_lt_of_cell? w _ hx104_1)).trans hx104_1
                      replace hx104_2 := (HB.out.cell (World.block_lt_of_cell? w _ hx104_2)).trans hx104_2
                      replace hx104_3 := (HB.out.cell (World.block_lt_of_cell? w _ hx104_3)).trans hx104_3
                      replace p104 := eq_true p104
                      replace q104 := eq_true q104
                      try go_wp2_with (first | ((with_reducible refine gate_callee (f := 137) rfl ?_); refine goesL_ (some 28) rfl rfl Try.func137 (by kernel_rfl) rfl #[.int .i64 ((rd_T130 l0 x5_1).f0)] rfl F1_ ?_; (with_reducible refine (dunnageref04_small.calls ((rd_T130 l0 x5_1).f0) true _ A7.out).mono ?_); rintro e w' ⟨rfl, ⟨nd, rfl⟩⟩; refine ⟨_, rfl, ?_⟩; have p106 : 0 ≤ (x5_1 : Int) := of_decide_eq_true F2_; have q106 : x5_1 < (l0.length : Int) := of_decide_eq_true F2_; obtain ⟨ad106, e106, hx106_0, hx106_1, hx106_2, hx106_3⟩ := at_T130 HR0.out x5_1 p106 q106; obtain rfl : ad104 = ad106 := (by injection e106); replace hx106_0 := (HB.out.cell (World.block_lt_of_cell? w _ hx106_0)).trans hx106_0; replace hx106_1 := (HB.out.cell (World.block_lt_of_cell? w _ hx106_1)).trans hx106_1; replace hx106_2 := (HB.out.cell (World.block_lt_of_cell? w _ hx106_2)).trans hx106_2; replace hx106_3 := (HB.out.cell (World.block_lt_of_cell? w _ hx106_3)).trans hx106_3; replace p106 := eq_true p106; replace q106 := eq_true q106) | ((with_reducible refine gate_callee (f := 137) rfl ?_); refine goesL_ (some 34) rfl rfl Try.func137 (by kernel_rfl) rfl #[.int .i64 ((rd_T130 l0 x5_1).f1)] rfl F1_ ?_; (with_reducible refine (dunnageref04_small.calls ((rd_T130 l0 x5_1).f1) true _ A8.out).mono ?_); rintro e w' ⟨rfl, ⟨nd, rfl⟩⟩; refine ⟨_, rfl, ?_⟩; have p108 : 0 ≤ (x5_1 : Int) := of_decide_eq_true F2_; have q108 : x5_1 < (l0.length : Int) := of_decide_eq_true F2_; obtain ⟨ad108, e108, hx108_0, hx108_1, hx108_2, hx108_3⟩ := at_T130 HR0.out x5_1 p108 q108; obtain rfl : ad104 = ad108 := (by injection e108); replace hx108_0 := (HB.out.cell (World.block_lt_of_cell? w _ hx108_0)).trans hx108_0; replace hx108_1 := (HB.out.cell (World.block_lt_of_cell? w _ hx108_1)).trans hx108_1; replace hx108_2 := (HB.out.cell (World.block_lt_of_cell? w _ hx108_2)).trans hx108_2; replace hx108_3 := (HB.out.cell (World.block_lt_of_cell? w _ hx108_3)).trans hx108_3; replace p108 := eq_true p108; replace q108 := eq_true q108) | ((with_reducible refine gate_callee (f := 137) rfl ?_); refine goesL_ (some 40) rfl rfl Try.func137 (by kernel_rfl) rfl #[.int .i64 ((rd_T130 l0 x5_1).f2)] rfl F1_ ?_; (with_reducible refine (dunnageref04_small.calls ((rd_T130 l0 x5_1).f2) true _ A9.out).mono ?_); rintro e w' ⟨rfl, ⟨nd, rfl⟩⟩; refine ⟨_, rfl, ?_⟩; have p110 : 0 ≤ (x5_1 : Int) := of_decide_eq_true F2_; have q110 : x5_1 < (l0.length : Int) := of_decide_eq_true F2_; obtain ⟨ad110, e110, hx110_0, hx110_1, hx110_2, hx110_3⟩ := at_T130 HR0.out x5_1 p110 q110; obtain rfl : ad104 = ad110 := (by injection e110); replace hx110_0 := (HB.out.cell (World.block_lt_of_cell? w _ hx110_0)).trans hx110_0; replace hx110_1 := (HB.out.cell (World.block_lt_of_cell? w _ hx110_1)).trans hx110_1; replace hx110_2 := (HB.out.cell (World.block_lt_of_cell? w _ hx110_2)).trans hx110_2; replace hx110_3 := (HB.out.cell (World.block_lt_of_cell? w _ hx110_3)).trans hx110_3; replace p110 := eq_true p110; replace q110 := eq_true q110) | ((with_reducible refine gate_callee (f := 137) rfl ?_); refine goesL_ (some 46) rfl rfl Try.func137 (by kernel_rfl) rfl #[.int .i64 ((rd_T130 l0 x5_1).f3)] rfl F1_ ?_; (with_reducible refine (dunnageref04_small.calls ((rd_T130 l0 x5_1).f3) true _ A10.out).mono ?_); rintro e w' ⟨rfl, ⟨nd, rfl⟩⟩; refine ⟨_, rfl, ?_⟩))
                      (try (rw [drewN_self wr]; generalize hq_ : World.drewN wr _ = wr; have n0_ : Aside0 (Kd.R (Kd.int .u64) 31 wr w.heap.size (fun _ => True) u4 x4_1) := ⟨by rw [← hq_]; exact F6_⟩; have n1_ : Aside0 (Below w.heap.size w wr) := ⟨by rw [← hq_]; exact (F3_)⟩; clear HO_4 HB hq_; have HO_4 := n0_; have HB := n1_; clear n0_ n1_))
                      have n0_ := Aside0.mk (Kd.R_drew HO_4.out)
                      have n1_ := Aside0.mk (below_drew1 HB.out)
                      clear HO_4
                      clear HB
                      have HO_4 := n0_
                      have HB := n1_
                      clear n0_ n1_
                      have p112 : 0 ≤ (x5_1 : Int) := of_decide_eq_true F2_
                      have q112 : x5_1 < (l0.length : Int) := of_decide_eq_true F2_
                      obtain ⟨ad112, e112, hx112_0, hx112_1, hx112_2, hx112_3⟩ := at_T130 HR0.out x5_1 p112 q112
                      have hw112_3 := hx112_3
                      have hw112_2 := hx112_2
                      have hw112_1 := hx112_1
                      have hw112_0 := hx112_0
                      obtain rfl : ad104 = ad112 := (by injection e112)
                      replace hx112_0 := (HB.out.cell (World.block_lt_of_cell? w _ hx112_0)).trans hx112_0
                      replace hx112_1 := (HB.out.cell (World.block_lt_of_cell? w _ hx112_1)).trans hx112_1
                      replace hx112_2 := (HB.out.cell (World.block_lt_of_cell? w _ hx112_2)).trans hx112_2
                      replace hx112_3 := (HB.out.cell (World.block_lt_of_cell? w _ hx112_3)).trans hx112_3
                      replace p112 := eq_true p112
                      replace q112 := eq_true q112
                      have p113 : 0 ≤ (x5_1 : Int) := of_decide_eq_true F2_
                      have q113 : x5_1 < (l0.length : Int) := of_decide_eq_true F2_
                      obtain ⟨ad113, e113, hx113_0, hx113_1, hx113_2, hx113_3⟩ := at_T130 HR0.out x5_1 p113 q113
                      have hw113_3 := hx113_3
                      have hw113_2 := hx113_2
                      have hw113_1 := hx113_1
                      have hw113_0 := hx113_0
                      obtain rfl : ad104 = ad113 := (by injection e113)
                      replace hx113_0 := (HB.out.cell (World.block_lt_of_cell? w _ hx113_0)).trans hx113_0
                      replace hx113_1 := (HB.out.cell (World.block_lt_of_cell? w _ hx113_1)).trans hx113_1
                      replace hx113_2 := (HB.out.cell (World.block_lt_of_cell? w _ hx113_2)).trans hx113_2
                      replace hx113_3 := (HB.out.cell (World.block_lt_of_cell? w _ hx113_3)).trans hx113_3
                      replace p113 := eq_true p113
                      replace q113 := eq_true q113
                      have p114 : 0 ≤ (x5_1 : Int) := of_decide_eq_true F2_
                      have q114 : x5_1 < (l0.length : Int) := of_decide_eq_true F2_
                      obtain ⟨ad114, e114, hx114_0, hx114_1, hx114_2, hx114_3⟩ := at_T130 HR0.out x5_1 p114 q114
                      have hw114_3 := hx114_3
                      have hw114_2 := hx114_2
                      have hw114_1 := hx114_1
                      have hw114_0 := hx114_0
                      obtain rfl : ad104 = ad114 := (by injection e114)
                      replace hx114_0 := (HB.out.cell (World.block_lt_of_cell? w _ hx114_0)).trans hx114_0
                      replace hx114_1 := (HB.out.cell (World.block_lt_of_cell? w _ hx114_1)).trans hx114_1
                      replace hx114_2 := (HB.out.cell (World.block_lt_of_cell? w _ hx114_2)).trans hx114_2
                      replace hx114_3 := (HB.out.cell (World.block_lt_of_cell? w _ hx114_3)).trans hx114_3
                      replace p114 := eq_true p114
                      replace q114 := eq_true q114
                      have p115 : 0 ≤ (x5_1 : Int) := of_decide_eq_true F2_
                      have q115 : x5_1 < (l0.length : Int) := of_decide_eq_true F2_
                      obtain ⟨ad115, e115, hx115_0, hx115_1, hx115_2, hx115_3⟩ := at_T130 HR0.out x5_1 p115 q115
                      have hw115_3 := hx115_3
                      have hw115_2 := hx115_2
                      have hw115_1 := hx115_1
                      have hw115_0 := hx115_0
                      obtain rfl : ad104 = ad115 := (by injection e115)
                      replace hx115_0 := (HB.out.cell (World.block_lt_of_cell? w _ hx115_0)).trans hx115_0
                      replace hx115_1 := (HB.out.cell (World.block_lt_of_cell? w _ hx115_1)).trans hx115_1
                      replace hx115_2 := (HB.out.cell (World.block_lt_of_cell? w _ hx115_2)).trans hx115_2
                      replace hx115_3 := (HB.out.cell (World.block_lt_of_cell? w _ hx115_3)).trans hx115_3
                      replace p115 := eq_true p115
                      replace q115 := eq_true q115
                      refine start_ (n := 28) (S := fun w' => w'.cell? (ad104.add ((x5_1).toNat * 4)) = some (.int .i64 ((rd_T130 l0 x5_1).f0)) ∧ w'.cell? ⟨(ad104.add ((x5_1).toNat * 4)).block, (ad104.add ((x5_1).toNat * 4)).off + 1, none⟩ = some (.int .i64 ((rd_T130 l0 x5_1).f1)) ∧ w'.cell? ⟨(ad104.add ((x5_1).toNat * 4)).block, (ad104.add ((x5_1).toNat * 4)).off + 2, none⟩ = some (.int .i64 ((rd_T130 l0 x5_1).f2)) ∧ w'.cell? ⟨(ad104.add ((x5_1).toNat * 4)).block, (ad104.add ((x5_1).toNat * 4)).off + 3, none⟩ = some (.int .i64 ((rd_T130 l0 x5_1).f3)) ∧ w'.cell? (ad104.add ((x5_1).toNat * 4)) = some (.int .i64 ((rd_T130 l0 x5_1).f0)) ∧ w'.cell? ⟨(ad104.add ((x5_1).toNat * 4)).block, (ad104.add ((x5_1).toNat * 4)).off + 1, none⟩ = some (.int .i64 ((rd_T130 l0 x5_1).f1)) ∧ w'.cell? ⟨(ad104.add ((x5_1).toNat * 4)).block, (ad104.add ((x5_1).toNat * 4)).off + 2, none⟩ = some (.int .i64 ((rd_T130 l0 x5_1).f2)) ∧ w'.cell? ⟨(ad104.add ((x5_1).toNat * 4)).block, (ad104.add ((x5_1).toNat * 4)).off + 3, none⟩ = some (.int .i64 ((rd_T130 l0 x5_1).f3)) ∧ w'.cell? (ad104.add ((x5_1).toNat * 4)) = some (.int .i64 ((rd_T130 l0 x5_1).f0)) ∧ w'.cell? ⟨(ad104.add ((x5_1).toNat * 4)).block, (ad104.add ((x5_1).toNat * 4)).off + 1, none⟩ = some (.int .i64 ((rd_T130 l0 x5_1).f1)) ∧ w'.cell? ⟨(ad104.add ((x5_1).toNat * 4)).block, (ad104.add ((x5_1).toNat * 4)).off + 2, none⟩ = some (.int .i64 ((rd_T130 l0 x5_1).f2)) ∧ w'.cell? ⟨(ad104.add ((x5_1).toNat * 4)).block, (ad104.add ((x5_1).toNat * 4)).off + 3, none⟩ = some (.int .i64 ((rd_T130 l0 x5_1).f3)) ∧ w'.cell? (ad104.add ((x5_1).toNat * 4)) = some (.int .i64 ((rd_T130 l0 x5_1).f0)) ∧ w'.cell? ⟨(ad104.add ((x5_1).toNat * 4)).block, (ad104.add ((x5_1).toNat * 4)).off + 1, none⟩ = some (.int .i64 ((rd_T130 l0 x5_1).f1)) ∧ w'.cell? ⟨(ad104.add ((x5_1).toNat * 4)).block, (ad104.add ((x5_1).toNat * 4)).off + 2, none⟩ = some (.int .i64 ((rd_T130 l0 x5_1).f2)) ∧ w'.cell? ⟨(ad104.add ((x5_1).toNat * 4)).block, (ad104.add ((x5_1).toNat * 4)).off + 3, none⟩ = some (.int .i64 ((rd_T130 l0 x5_1).f3))) (ds := []) #[false, false, false, false, false, false, false, false, false, false, false, false, false, false, false, false, false, false, false, false, false, false, false, false, false, false, false, false] (by kernel_rfl) rfl rfl ⟨((HB.out.cell (World.block_lt_of_cell? w _ hw112_0)).trans hw112_0), ((HB.out.cell (World.block_lt_of_cell? w _ hw112_1)).trans hw112_1), ((HB.out.cell (World.block_lt_of_cell? w _ hw112_2)).trans hw112_2), ((HB.out.cell (World.block_lt_of_cell? w _ hw112_3)).trans hw112_3), ((HB.out.cell (World.block_lt_of_cell? w _ hw113_0)).trans hw113_0), ((HB.out.cell (World.block_lt_of_cell? w _ hw113_1)).trans hw113_1), ((HB.out.cell (World.block_lt_of_cell? w _ hw113_2)).trans hw113_2), ((HB.out.cell (World.block_lt_of_cell? w _ hw113_3)).trans hw113_3), ((HB.out.cell (World.block_lt_of_cell? w _ hw114_0)).trans hw114_0), ((HB.out.cell (World.block_lt_of_cell? w _ hw114_1)).trans hw114_1), ((HB.out.cell (World.block_lt_of_cell? w _ hw114_2)).trans hw114_2), ((HB.out.cell (World.block_lt_of_cell? w _ hw114_3)).trans hw114_3), ((HB.out.cell (World.block_lt_of_cell? w _ hw115_0)).trans hw115_0), ((HB.out.cell (World.block_lt_of_cell? w _ hw115_1)).trans hw115_1), ((HB.out.cell (World.block_lt_of_cell? w _ hw115_2)).trans hw115_2), ((HB.out.cell (World.block_lt_of_cell? w _ hw115_3)).trans hw115_3)⟩ (fun hHeld => ?_); refine with_tabW dunnageref04_Moves.tab13 dunnageref04_Moves.bits13 (fun HT_ HW_ => ?_)
                      generalize wr.drew = w16 at HO_4 HB hx112_0 hx112_1 hx112_2 hx112_3 hx113_0 hx113_1 hx113_2 hx113_3 hx114_0 hx114_1 hx114_2 hx114_3 hx115_0 hx115_1 hx115_2 hx115_3 hHeld ⊢
                      refine pure_ (i := 0) (N := some 61) (v := ?_) (a' := ?_) #[true, false, false, false, false, false, false, false, false, false, false, false, false, false, false, false, false, false, false, false, false, false, false, false, false, false, false, false] rfl rfl (any_of HT_.out (by kernel_rfl)) (fun _ _ _ h => h) (Or.inl ⟨by rfl, ?_⟩) ?_ ?_
                      rotate_left
                      · intro w'
                        go_simp
                        with_reducible rfl
                      rotate_left
                      · simp only [Act.put, List.setIfInBounds_toArray, List.set_cons_zero, List.set_cons_succ, i64_w, i32_w]
                        rfl
                      refine pure_ (i := 1) (N := some 62) (v := ?_) (a' := ?_) #[true, true, false, false, false, false, false, false, false, false, false, false, false, false, false, false, false, false, false, false, false, false, false, false, false, false, false, false] rfl rfl (any_of HT_.out (by kernel_rfl)) (fun _ _ _ h => h) (Or.inl ⟨by rfl, ?_⟩) ?_ ?_
                      rotate_left
                      · intro w'
                        go_simp
                        with_reducible rfl
                      rotate_left
                      · simp only [Act.put, List.setIfInBounds_toArray, List.set_cons_zero, List.set_cons_succ, i64_w, i32_w]
                        rfl
                      refine pure_ (i := 2) (N := some 63) (v := ?_) (a' := ?_) #[true, true, true, false, false, false, false, false, false, false, false, false, false, false, false, false, false, false, false, false, false, false, false, false, false, false, false, false] rfl rfl (any_of HT_.out (by kernel_rfl)) (fun _ _ _ h => h) (Or.inl ⟨by rfl, ?_⟩) ?_ ?_
                      rotate_left
                      · intro w'
                        go_simp
                        with_reducible rfl
                      rotate_left
                      · simp only [Act.put, List.setIfInBounds_toArray, List.set_cons_zero, List.set_cons_succ, i64_w, i32_w]
                        rfl
                      refine pure_ (i := 3) (N := some 64) (v := ?_) (a' := ?_) #[true, true, true, true, false, false, false, false, false, false, false, false, false, false, false, false, false, false, false, false, false, false, false, false, false, false, false, false] rfl rfl (any_of HT_.out (by kernel_rfl)) (fun _ _ _ h => h) (Or.inl ⟨by rfl, ?_⟩) ?_ ?_
                      rotate_left
                      · intro w'
                        go_simp
                        with_reducible rfl
                      rotate_left
                      · simp only [Act.put, List.setIfInBounds_toArray, List.set_cons_zero, List.set_cons_succ, i64_w, i32_w]
                        rfl
                      refine pure_ (i := 4) (N := some 65) (v := ?_) (a' := ?_) #[true, true, true, true, true, false, false, false, false, false, false, false, false, false, false, false, false, false, false, false, false, false, false, false, false, false, false, false] rfl rfl (any_of HT_.out (by kernel_rfl)) (fun _ _ _ h => h) (Or.inl ⟨by rfl, ?_⟩) ?_ ?_
                      rotate_left
                      · intro w'
                        go_simp
                        with_reducible rfl
                      rotate_left
                      · simp only [Act.put, List.setIfInBounds_toArray, List.set_cons_zero, List.set_cons_succ, i64_w, i32_w]
                        rfl
                      refine pure_ (i := 7) (N := some 68) (v := ?_) (a' := ?_) #[true, true, true, true, true, false, false, true, false, false, false, false, false, false, false, false, false, false, false, false, false, false, false, false, false, false, false, false] rfl rfl (any_of HT_.out (by kernel_rfl)) (fun _ _ _ h => h) (Or.inl ⟨by rfl, ?_⟩) ?_ ?_
                      rotate_left
                      · intro w'
                        go_simp
                        with_reducible rfl
                      rotate_left
                      · simp only [Act.put, List.setIfInBounds_toArray, List.set_cons_zero, List.set_cons_succ, i64_w, i32_w]
                        rfl
                      refine pure_ (i := 8) (N := some 69) (v := ?_) (a' := ?_) #[true, true, true, true, true, false, false, true, true, false, false, false, false, false, false, false, false, false, false, false, false, false, false, false, false, false, false, false] rfl rfl (any_of HT_.out (by kernel_rfl)) (fun _ _ _ h => h) (Or.inl ⟨by rfl, ?_⟩) ?_ ?_
                      rotate_left
                      · intro w'
                        go_simp
                        with_reducible rfl
                      rotate_left
                      · simp only [Act.put, List.setIfInBounds_toArray, List.set_cons_zero, List.set_cons_succ, i64_w, i32_w]
                        rfl
                      refine pure_ (i := 9) (N := some 70) (v := ?_) (a' := ?_) #[true, true, true, true, true, false, false, true, true, true, false, false, false, false, false, false, false, false, false, false, false, false, false, false, false, false, false, false] rfl rfl (any_of HT_.out (by kernel_rfl)) (fun _ _ _ h => h) (Or.inl ⟨by rfl, ?_⟩) ?_ ?_
                      rotate_left
                      · intro w'
                        go_simp
                        with_reducible rfl
                      rotate_left
                      · simp only [Act.put, List.setIfInBounds_toArray, List.set_cons_zero, List.set_cons_succ, i64_w, i32_w]
                        rfl
                      refine pure_ (i := 10) (N := some 71) (v := ?_) (a' := ?_) #[true, true, true, true, true, false, false, true, true, true, true, false, false, false, false, false, false, false, false, false, false, false, false, false, false, false, false, false] rfl rfl (any_of HT_.out (by kernel_rfl)) (fun _ _ _ h => h) (Or.inl ⟨by rfl, ?_⟩) ?_ ?_
                      rotate_left
                      · intro w'
                        go_simp
                        with_reducible rfl
                      rotate_left
                      · simp only [Act.put, List.setIfInBounds_toArray, List.set_cons_zero, List.set_cons_succ, i64_w, i32_w]
                        rfl
                      refine pure_ (i := 13) (N := some 74) (v := ?_) (a' := ?_) #[true, true, true, true, true, false, false, true, true, true, true, false, false, true, false, false, false, false, false, false, false, false, false, false, false, false, false, false] rfl rfl (any_of HT_.out (by kernel_rfl)) (fun _ _ _ h => h) (Or.inl ⟨by rfl, ?_⟩) ?_ ?_
                      rotate_left
                      · intro w'
                        go_simp
                        with_reducible rfl
                      rotate_left
                      · simp only [Act.put, List.setIfInBounds_toArray, List.set_cons_zero, List.set_cons_succ, i64_w, i32_w]
                        rfl
                      refine pure_ (i := 14) (N := some 75) (v := ?_) (a' := ?_) #[true, true, true, true, true, false, false, true, true, true, true, false, false, true, true, false, false, false, false, false, false, false, false, false, false, false, false, false] rfl rfl (any_of HT_.out (by kernel_rfl)) (fun _ _ _ h => h) (Or.inl ⟨by rfl, ?_⟩) ?_ ?_
                      rotate_left
                      · intro w'
                        go_simp
                        with_reducible rfl
                      rotate_left
                      · simp only [Act.put, List.setIfInBounds_toArray, List.set_cons_zero, List.set_cons_succ, i64_w, i32_w]
                        rfl
                      refine pure_ (i := 15) (N := some 76) (v := ?_) (a' := ?_) #[true, true, true, true, true, false, false, true, true, true, true, false, false, true, true, true, false, false, false, false, false, false, false, false, false, false, false, false] rfl rfl (any_of HT_.out (by kernel_rfl)) (fun _ _ _ h => h) (Or.inl ⟨by rfl, ?_⟩) ?_ ?_
                      rotate_left
                      · intro w'
                        go_simp
                        with_reducible rfl
                      rotate_left
                      · simp only [Act.put, List.setIfInBounds_toArray, List.set_cons_zero, List.set_cons_succ, i64_w, i32_w]
                        rfl
                      refine pure_ (i := 16) (N := some 77) (v := ?_) (a' := ?_) #[true, true, true, true, true, false, false, true, true, true, true, false, false, true, true, true, true, false, false, false, false, false, false, false, false, false, false, false] rfl rfl (any_of HT_.out (by kernel_rfl)) (fun _ _ _ h => h) (Or.inl ⟨by rfl, ?_⟩) ?_ ?_
                      rotate_left
                      · intro w'
                        go_simp
                        with_reducible rfl
                      rotate_left
                      · simp only [Act.put, List.setIfInBounds_toArray, List.set_cons_zero, List.set_cons_succ, i64_w, i32_w]
                        rfl
                      refine pure_ (i := 19) (N := some 80) (v := ?_) (a' := ?_) #[true, true, true, true, true, false, false, true, true, true, true, false, false, true, true, true, true, false, false, true, false, false, false, false, false, false, false, false] rfl rfl (any_of HT_.out (by kernel_rfl)) (fun _ _ _ h => h) (Or.inl ⟨by rfl, ?_⟩) ?_ ?_
                      rotate_left
                      · intro w'
                        go_simp
                        with_reducible rfl
                      rotate_left
                      · simp only [Act.put, List.setIfInBounds_toArray, List.set_cons_zero, List.set_cons_succ, i64_w, i32_w]
                        rfl
                      refine pure_ (i := 20) (N := some 81) (v := ?_) (a' := ?_) #[true, true, true, true, true, false, false, true, true, true, true, false, false, true, true, true, true, false, false, true, true, false, false, false, false, false, false, false] rfl rfl (any_of HT_.out (by kernel_rfl)) (fun _ _ _ h => h) (Or.inl ⟨by rfl, ?_⟩) ?_ ?_
                      rotate_left
                      · intro w'
                        go_simp
                        with_reducible rfl
                      rotate_left
                      · simp only [Act.put, List.setIfInBounds_toArray, List.set_cons_zero, List.set_cons_succ, i64_w, i32_w]
                        rfl
                      refine pure_ (i := 21) (N := some 82) (v := ?_) (a' := ?_) #[true, true, true, true, true, false, false, true, true, true, true, false, false, true, true, true, true, false, false, true, true, true, false, false, false, false, false, false] rfl rfl (any_of HT_.out (by kernel_rfl)) (fun _ _ _ h => h) (Or.inl ⟨by rfl, ?_⟩) ?_ ?_
                      rotate_left
                      · intro w'
                        go_simp
                        with_reducible rfl
                      rotate_left
                      · simp only [Act.put, List.setIfInBounds_toArray, List.set_cons_zero, List.set_cons_succ, i64_w, i32_w]
                        rfl
                      refine pure_ (i := 22) (N := some 83) (v := ?_) (a' := ?_) #[true, true, true, true, true, false, false, true, true, true, true, false, false, true, true, true, true, false, false, true, true, true, true, false, false, false, false, false] rfl rfl (any_of HT_.out (by kernel_rfl)) (fun _ _ _ h => h) (Or.inl ⟨by rfl, ?_⟩) ?_ ?_
                      rotate_left
                      · intro w'
                        go_simp
                        with_reducible rfl
                      rotate_left
                      · simp only [Act.put, List.setIfInBounds_toArray, List.set_cons_zero, List.set_cons_succ, i64_w, i32_w]
                        rfl
                      refine take_ (i := 5) (N := some 66) (v := ?_) (a' := ?_) #[true, true, true, true, true, true, false, true, true, true, true, false, false, true, true, true, true, false, false, true, true, true, true, false, false, false, false, false] rfl rfl (take_ofW HT_.out HW_.out (by kernel_rfl)) (fun _ _ _ h => h) (Or.inl ⟨by rfl, ?_⟩) hHeld ?_ ?_
                      rotate_left
                      · rintro w' ⟨s0, s1, s2, s3, s4, s5, s6, s7, s8, s9, s10, s11, s12, s13, s14, s15⟩
                        go_simp
                        with_reducible rfl
                      rotate_left
                      · simp only [Act.put, List.setIfInBounds_toArray, List.set_cons_zero, List.set_cons_succ, i64_w, i32_w]
                        rfl
                      refine pure_ (i := 6) (N := some 67) (v := ?_) (a' := ?_) #[true, true, true, true, true, true, true, true, true, true, true, false, false, true, true, true, true, false, false, true, true, true, true, false, false, false, false, false] rfl rfl (any_of HT_.out (by kernel_rfl)) (fun _ _ _ h => h) (Or.inl ⟨by rfl, ?_⟩) ?_ ?_
                      rotate_left
                      · intro w'
                        go_simp
                        with_reducible rfl
                      rotate_left
                      · simp only [Act.put, List.setIfInBounds_toArray, List.set_cons_zero, List.set_cons_succ, i64_w, i32_w]
                        rfl
                      refine take_ (i := 11) (N := some 72) (v := ?_) (a' := ?_) #[true, true, true, true, true, true, true, true, true, true, true, true, false, true, true, true, true, false, false, true, true, true, true, false, false, false, false, false] rfl rfl (take_ofW HT_.out HW_.out (by kernel_rfl)) (fun _ _ _ h => h) (Or.inl ⟨by rfl, ?_⟩) hHeld ?_ ?_
                      rotate_left
                      · rintro w' ⟨s0, s1, s2, s3, s4, s5, s6, s7, s8, s9, s10, s11, s12, s13, s14, s15⟩
                        go_simp
                        with_reducible rfl
                      rotate_left
                      · simp only [Act.put, List.setIfInBounds_toArray, List.set_cons_zero, List.set_cons_succ, i64_w, i32_w]
                        rfl
                      refine pure_ (i := 12) (N := some 73) (v := ?_) (a' := ?_) #[true, true, true, true, true, true, true, true, true, true, true, true, true, true, true, true, true, false, false, true, true, true, true, false, false, false, false, false] rfl rfl (any_of HT_.out (by kernel_rfl)) (fun _ _ _ h => h) (Or.inl ⟨by rfl, ?_⟩) ?_ ?_
                      rotate_left
                      · intro w'
                        go_simp
                        with_reducible rfl
                      rotate_left
                      · simp only [Act.put, List.setIfInBounds_toArray, List.set_cons_zero, List.set_cons_succ, i64_w, i32_w]
                        rfl
                      refine take_ (i := 17) (N := some 78) (v := ?_) (a' := ?_) #[true, true, true, true, true, true, true, true, true, true, true, true, true, true, true, true, true, true, false, true, true, true, true, false, false, false, false, false] rfl rfl (take_ofW HT_.out HW_.out (by kernel_rfl)) (fun _ _ _ h => h) (Or.inl ⟨by rfl, ?_⟩) hHeld ?_ ?_
                      rotate_left
                      · rintro w' ⟨s0, s1, s2, s3, s4, s5, s6, s7, s8, s9, s10, s11, s12, s13, s14, s15⟩
                        go_simp
                        with_reducible rfl
                      rotate_left
                      · simp only [Act.put, List.setIfInBounds_toArray, List.set_cons_zero, List.set_cons_succ, i64_w, i32_w]
                        rfl
                      refine pure_ (i := 18) (N := some 79) (v := ?_) (a' := ?_) #[true, true, true, true, true, true, true, true, true, true, true, true, true, true, true, true, true, true, true, true, true, true, true, false, false, false, false, false] rfl rfl (any_of HT_.out (by kernel_rfl)) (fun _ _ _ h => h) (Or.inl ⟨by rfl, ?_⟩) ?_ ?_
                      rotate_left
                      · intro w'
                        go_simp
                        with_reducible rfl
                      rotate_left
                      · simp only [Act.put, List.setIfInBounds_toArray, List.set_cons_zero, List.set_cons_succ, i64_w, i32_w]
                        rfl
                      refine take_ (i := 23) (N := some 84) (v := ?_) (a' := ?_) #[true, true, true, true, true, true, true, true, true, true, true, true, true, true, true, true, true, true, true, true, true, true, true, true, false, false, false, false] rfl rfl (take_ofW HT_.out HW_.out (by kernel_rfl)) (fun _ _ _ h => h) (Or.inl ⟨by rfl, ?_⟩) hHeld ?_ ?_
                      rotate_left
                      · rintro w' ⟨s0, s1, s2, s3, s4, s5, s6, s7, s8, s9, s10, s11, s12, s13, s14, s15⟩
                        go_simp
                        with_reducible rfl
                      rotate_left
                      · simp only [Act.put, List.setIfInBounds_toArray, List.set_cons_zero, List.set_cons_succ, i64_w, i32_w]
                        rfl
                      refine pure_ (i := 24) (N := some 85) (v := ?_) (a' := ?_) #[true, true, true, true, true, true, true, true, true, true, true, true, true, true, true, true, true, true, true, true, true, true, true, true, true, false, false, false] rfl rfl (any_of HT_.out (by kernel_rfl)) (fun _ _ _ h => h) (Or.inl ⟨by rfl, ?_⟩) ?_ ?_
                      rotate_left
                      · intro w'
                        go_simp
                        with_reducible rfl
                      rotate_left
                      · simp only [Act.put, List.setIfInBounds_toArray, List.set_cons_zero, List.set_cons_succ, i64_w, i32_w]
                        rfl
                      refine one_ (i := 25) (N := some 86) #[true, true, true, true, true, true, true, true, true, true, true, true, true, true, true, true, true, true, true, true, true, true, true, true, true, true, false, false] rfl rfl (one_of HT_.out (by kernel_rfl)) (by decide) (fun K hK => ?_)
                      refine Kd.R_lit_step (Kd.int .u64) _ 31 ?hg (N := 86) ?hd (xs := ([IntKind.u64.wrap ((rd_T130 l0 x5_1).f0), IntKind.u64.wrap ((rd_T130 l0 x5_1).f1), IntKind.u64.wrap ((rd_T130 l0 x5_1).f2), IntKind.u64.wrap ((rd_T130 l0 x5_1).f3)] : List Int)) (inner := [.int .u64 (IntKind.u64.wrap ((rd_T130 l0 x5_1).f0)), .int .u64 (IntKind.u64.wrap ((rd_T130 l0 x5_1).f1)), .int .u64 (IntKind.u64.wrap ((rd_T130 l0 x5_1).f2)), .int .u64 (IntKind.u64.wrap ((rd_T130 l0 x5_1).f3))]) (ok := fun _ => True) (okp := fun _ => True) ?hr ?hp (fun _ hk => hk) trivial (Below.refl _ _) (Nat.le_refl _) (by simp) ?_; (case hd => rfl); (case hg => rfl); (case hr => first | (go_simp; done) | (go_simp; rfl)); (case hp => exact (Reps.one (show Kd.M (Kd.int .u64) _ _ _ (IntKind.u64.wrap ((rd_T130 l0 x5_1).f0)) [.int .u64 (IntKind.u64.wrap ((rd_T130 l0 x5_1).f0))] from rfl) (Reps.one (show Kd.M (Kd.int .u64) _ _ _ (IntKind.u64.wrap ((rd_T130 l0 x5_1).f1)) [.int .u64 (IntKind.u64.wrap ((rd_T130 l0 x5_1).f1))] from rfl) (Reps.one (show Kd.M (Kd.int .u64) _ _ _ (IntKind.u64.wrap ((rd_T130 l0 x5_1).f2)) [.int .u64 (IntKind.u64.wrap ((rd_T130 l0 x5_1).f2))] from rfl) (Reps.one (show Kd.M (Kd.int .u64) _ _ _ (IntKind.u64.wrap ((rd_T130 l0 x5_1).f3)) [.int .u64 (IntKind.u64.wrap ((rd_T130 l0 x5_1).f3))] from rfl) (Reps.none _ _))))))
                      intro v117 w17 ho18 hb hg_ hnew_
                      clear hg_ hnew_
                      (first | rw [← Ny116.out] at ho18 | (simp only [Int.reduceToNat] at ho18; rw [← Ny116.out] at ho18))
                      have n0_ := Aside0.mk (Kd.R_elder' F6_ (Kd.R_base ho18) hb)
                      have n1_ := Aside0.mk (Kd.R_lower (Kd.R_new' ho18 (Kd.R_lt F6_)) (below_size (F3_)))
                      have n2_ := Aside0.mk (below_step (F3_) hb)
                      clear HO_4
                      clear HB
                      have HO_4 := n0_
                      have HO118 := n1_
                      have HB := n2_
                      clear n0_ n1_ n2_
                      clear hb ho18
                      obtain ⟨Ao20, co20, eo20⟩ := Kd.R_slice HO118.out
                      (first | subst eo20 | (injection eo20 with f1_ f2_ f3_; have f4_ := f1_.symm; have f5_ := f3_.symm; clear f1_ f2_ f3_; subst f4_; subst f5_))
                      refine hK.out _ _ ⟨((HB.out.cell (World.block_lt_of_cell? w _ hw112_0)).trans hw112_0), ((HB.out.cell (World.block_lt_of_cell? w _ hw112_1)).trans hw112_1), ((HB.out.cell (World.block_lt_of_cell? w _ hw112_2)).trans hw112_2), ((HB.out.cell (World.block_lt_of_cell? w _ hw112_3)).trans hw112_3), ((HB.out.cell (World.block_lt_of_cell? w _ hw113_0)).trans hw113_0), ((HB.out.cell (World.block_lt_of_cell? w _ hw113_1)).trans hw113_1), ((HB.out.cell (World.block_lt_of_cell? w _ hw113_2)).trans hw113_2), ((HB.out.cell (World.block_lt_of_cell? w _ hw113_3)).trans hw113_3), ((HB.out.cell (World.block_lt_of_cell? w _ hw114_0)).trans hw114_0), ((HB.out.cell (World.block_lt_of_cell? w _ hw114_1)).trans hw114_1), ((HB.out.cell (World.block_lt_of_cell? w _ hw114_2)).trans hw114_2), ((HB.out.cell (World.block_lt_of_cell? w _ hw114_3)).trans hw114_3), ((HB.out.cell (World.block_lt_of_cell? w _ hw115_0)).trans hw115_0), ((HB.out.cell (World.block_lt_of_cell? w _ hw115_1)).trans hw115_1), ((HB.out.cell (World.block_lt_of_cell? w _ hw115_2)).trans hw115_2), ((HB.out.cell (World.block_lt_of_cell? w _ hw115_3)).trans hw115_3)⟩ (fun hHeld => ?_)
                      clear hK K
                      refine norm_ (a' := ?_) ?_ ?_
                      rotate_left
                      · show Act.put _ (some 86) _ = _
                        simp only [Act.put, List.setIfInBounds_toArray, List.set_cons_zero, List.set_cons_succ, i64_w, i32_w]
                        rfl
                      refine one_ (i := 26) (N := some 87) #[true, true, true, true, true, true, true, true, true, true, true, true, true, true, true, true, true, true, true, true, true, true, true, true, true, true, true, false] rfl rfl (one_of HT_.out (by kernel_rfl)) (by decide) (fun K hK => ?_)
                      refine Kd.R_append_rows_step (Kd.int .u64) (w0 := w) w.heap.size (by rfl) (.tmp 61) (.tmp 86) 112 31 (.int .u64 0) 8 rfl Try.underlying112 info31 rfl (by decide) (by omega) u4 x4_1 y116 _ _ _ (fun k_ => some k_ ≠ (.slice Ao20 y116.length co20 : Value).ownBlock) (fun _ => False) rfl rfl ?aO ?aR (fun _ _ h => h) (fun _ h => h.elim) ?aF ?aB ?aS ?aL ?_
                      (case aR => repeat (first | exact (Kd.R_reads' HO118.out).2.2 | (with_reducible refine Kd.C_alloc ?_ _) | (with_reducible refine Kd.C_drewN ?_ _) | (with_reducible refine Kd.C_drew ?_)))
                      (case aB => exact (F3_))
                      (case aF => exact (fun k_ hk => Kd.fresh' (Kd.R_lt (by (with_reducible repeat (first | apply Kd.R_alloc | apply Kd.R_drewN | apply Kd.R_drew)); exact HO118.out)) k_ hk))
                      (case aO => exact (by (with_reducible repeat (first | apply Kd.R_alloc | apply Kd.R_drewN | apply Kd.R_drew)); exact Kd.R_mono HO_4.out (fun _ hk => hk.2)))
                      (case aS => exact (below_size (F3_)))
                      (case aL => have := LMc15.out; omega)
                      intro v120 w19 ho hb hg hat
                      rw [← Ny119.out] at ho
                      have n0_ := Aside0.mk (Kd.R_after (ok := (fun _ => True)) (by (with_reducible repeat (first | apply Kd.R_alloc | apply Kd.R_drewN | apply Kd.R_drew)); exact HO118.out) hg hat)
                      have n1_ := Aside0.mk (hb)
                      have n2_ := Aside0.mk (ho)
                      clear HO118
                      clear HB
                      clear HO_4
                      have HO118 := n0_
                      have HB := n1_
                      have HO121 := n2_
                      clear n0_ n1_ n2_
                      clear ho hb hg hat
                      refine hK.out _ _ ⟨((HB.out.cell (World.block_lt_of_cell? w _ hw112_0)).trans hw112_0), ((HB.out.cell (World.block_lt_of_cell? w _ hw112_1)).trans hw112_1), ((HB.out.cell (World.block_lt_of_cell? w _ hw112_2)).trans hw112_2), ((HB.out.cell (World.block_lt_of_cell? w _ hw112_3)).trans hw112_3), ((HB.out.cell (World.block_lt_of_cell? w _ hw113_0)).trans hw113_0), ((HB.out.cell (World.block_lt_of_cell? w _ hw113_1)).trans hw113_1), ((HB.out.cell (World.block_lt_of_cell? w _ hw113_2)).trans hw113_2), ((HB.out.cell (World.block_lt_of_cell? w _ hw113_3)).trans hw113_3), ((HB.out.cell (World.block_lt_of_cell? w _ hw114_0)).trans hw114_0), ((HB.out.cell (World.block_lt_of_cell? w _ hw114_1)).trans hw114_1), ((HB.out.cell (World.block_lt_of_cell? w _ hw114_2)).trans hw114_2), ((HB.out.cell (World.block_lt_of_cell? w _ hw114_3)).trans hw114_3), ((HB.out.cell (World.block_lt_of_cell? w _ hw115_0)).trans hw115_0), ((HB.out.cell (World.block_lt_of_cell? w _ hw115_1)).trans hw115_1), ((HB.out.cell (World.block_lt_of_cell? w _ hw115_2)).trans hw115_2), ((HB.out.cell (World.block_lt_of_cell? w _ hw115_3)).trans hw115_3)⟩ (fun hHeld => ?_)
                      clear hK K
                      refine norm_ (a' := ?_) ?_ ?_
                      rotate_left
                      · show Act.put _ (some 87) _ = _
                        simp only [Act.put, List.setIfInBounds_toArray, List.set_cons_zero, List.set_cons_succ, i64_w, i32_w]
                        rfl
                      refine pure_ (i := 27) (N := some 4) (v := ?_) (a' := ?_) #[true, true, true, true, true, true, true, true, true, true, true, true, true, true, true, true, true, true, true, true, true, true, true, true, true, true, true, true] rfl rfl (any_of HT_.out (by kernel_rfl)) (fun _ _ _ h => h) (Or.inl ⟨by rfl, ?_⟩) ?_ ?_
                      rotate_left
                      · intro w'
                        go_simp
                        with_reducible rfl
                      rotate_left
                      · simp only [Act.put, List.setIfInBounds_toArray, List.set_cons_zero, List.set_cons_succ, i64_w, i32_w]
                        rfl
                      refine done_ (done_of HT_.out (by kernel_rfl)) ?_
                      try go_wp2
                      go_roundg k1
                      case measure => have := HK1.out; omega
                      case rel => exact ⟨(y119), (wrap64 (x5_1 + 1)), (by first | rfl | (simp; done) | (simp [*]; done)), H', ⟨by have := HK1.out; omega⟩, ⟨by (with_reducible repeat (first | apply Kd.R_alloc | apply Kd.R_drewN | apply Kd.R_drew)); exact Kd.R_mono HO121.out (fun _ hk => trivial)⟩, ⟨F3_⟩⟩
                    · rw [if_neg c15] at H
                      exact absurd H (by simp)
                  · replace c14 := Bool.eq_false_iff.mpr c14
                    subst c14
                    have H1 : (some (([] : List Int), false)) = some (r1, r2) := by rw [if_neg (show ¬ (false = true) by decide)] at H; exact H
                    clear H
                    have H := H1
                    clear H1
                    simp only [Option.some.injEq, Prod.mk.injEq] at H
                    obtain ⟨rfl, rfl⟩ := H
                    have p104 : 0 ≤ (x5_1 : Int) := of_decide_eq_true F2_
                    have q104 : x5_1 < (l0.length : Int) := of_decide_eq_true F2_
                    obtain ⟨ad104, e104, hx104_0, hx104_1, hx104_2, hx104_3⟩ := at_T130 HR0.out x5_1 p104 q104
                    cases e104
                    replace hx104_0 := (HB.out.cell (World.block_lt_of_cell? w _ hx104_0)).trans hx104_0
                    replace hx104_1 := (HB.out.cell (World.block_lt_of_cell? w _ hx104_1)).trans hx104_1
                    replace hx104_2 := (HB.out.cell (World.block_lt_of_cell? w _ hx104_2)).trans hx104_2
                    replace hx104_3 := (HB.out.cell (World.block_lt_of_cell? w _ hx104_3)).trans hx104_3
                    replace p104 := eq_true p104
                    replace q104 := eq_true q104
                    go_wp2_with (first | ((with_reducible refine gate_callee (f := 137) rfl ?_); refine goesL_ (some 28) rfl rfl Try.func137 (by kernel_rfl) rfl #[.int .i64 ((rd_T130 l0 x5_1).f0)] rfl F1_ ?_; (with_reducible refine (dunnageref04_small.calls ((rd_T130 l0 x5_1).f0) true _ A7.out).mono ?_); rintro e w' ⟨rfl, ⟨nd, rfl⟩⟩; refine ⟨_, rfl, ?_⟩; have p106 : 0 ≤ (x5_1 : Int) := of_decide_eq_true F2_; have q106 : x5_1 < (l0.length : Int) := of_decide_eq_true F2_; obtain ⟨ad106, e106, hx106_0, hx106_1, hx106_2, hx106_3⟩ := at_T130 HR0.out x5_1 p106 q106; obtain rfl : ad104 = ad106 := (by injection e106); replace hx106_0 := (HB.out.cell (World.block_lt_of_cell? w _ hx106_0)).trans hx106_0; replace hx106_1 := (HB.out.cell (World.block_lt_of_cell? w _ hx106_1)).trans hx106_1; replace hx106_2 := (HB.out.cell (World.block_lt_of_cell? w _ hx106_2)).trans hx106_2; replace hx106_3 := (HB.out.cell (World.block_lt_of_cell? w _ hx106_3)).trans hx106_3; replace p106 := eq_true p106; replace q106 := eq_true q106) | ((with_reducible refine gate_callee (f := 137) rfl ?_); refine goesL_ (some 34) rfl rfl Try.func137 (by kernel_rfl) rfl #[.int .i64 ((rd_T130 l0 x5_1).f1)] rfl F1_ ?_; (with_reducible refine (dunnageref04_small.calls ((rd_T130 l0 x5_1).f1) true _ A8.out).mono ?_); rintro e w' ⟨rfl, ⟨nd, rfl⟩⟩; refine ⟨_, rfl, ?_⟩; have p108 : 0 ≤ (x5_1 : Int) := of_decide_eq_true F2_; have q108 : x5_1 < (l0.length : Int) := of_decide_eq_true F2_; obtain ⟨ad108, e108, hx108_0, hx108_1, hx108_2, hx108_3⟩ := at_T130 HR0.out x5_1 p108 q108; obtain rfl : ad104 = ad108 := (by injection e108); replace hx108_0 := (HB.out.cell (World.block_lt_of_cell? w _ hx108_0)).trans hx108_0; replace hx108_1 := (HB.out.cell (World.block_lt_of_cell? w _ hx108_1)).trans hx108_1; replace hx108_2 := (HB.out.cell (World.block_lt_of_cell? w _ hx108_2)).trans hx108_2; replace hx108_3 := (HB.out.cell (World.block_lt_of_cell? w _ hx108_3)).trans hx108_3; replace p108 := eq_true p108; replace q108 := eq_true q108) | ((with_reducible refine gate_callee (f := 137) rfl ?_); refine goesL_ (some 40) rfl rfl Try.func137 (by kernel_rfl) rfl #[.int .i64 ((rd_T130 l0 x5_1).f2)] rfl F1_ ?_; (with_reducible refine (dunnageref04_small.calls ((rd_T130 l0 x5_1).f2) true _ A9.out).mono ?_); rintro e w' ⟨rfl, ⟨nd, rfl⟩⟩; refine ⟨_, rfl, ?_⟩; have p110 : 0 ≤ (x5_1 : Int) := of_decide_eq_true F2_; have q110 : x5_1 < (l0.length : Int) := of_decide_eq_true F2_; obtain ⟨ad110, e110, hx110_0, hx110_1, hx110_2, hx110_3⟩ := at_T130 HR0.out x5_1 p110 q110; obtain rfl : ad104 = ad110 := (by injection e110); replace hx110_0 := (HB.out.cell (World.block_lt_of_cell? w _ hx110_0)).trans hx110_0; replace hx110_1 := (HB.out.cell (World.block_lt_of_cell? w _ hx110_1)).trans hx110_1; replace hx110_2 := (HB.out.cell (World.block_lt_of_cell? w _ hx110_2)).trans hx110_2; replace hx110_3 := (HB.out.cell (World.block_lt_of_cell? w _ hx110_3)).trans hx110_3; replace p110 := eq_true p110; replace q110 := eq_true q110) | ((with_reducible refine gate_callee (f := 137) rfl ?_); refine goesL_ (some 46) rfl rfl Try.func137 (by kernel_rfl) rfl #[.int .i64 ((rd_T130 l0 x5_1).f3)] rfl F1_ ?_; (with_reducible refine (dunnageref04_small.calls ((rd_T130 l0 x5_1).f3) false _ A10.out).mono ?_); rintro e w' ⟨rfl, ⟨nd, rfl⟩⟩; refine ⟨_, rfl, ?_⟩))
                    go_ret2
                    exact ⟨_, F5_, F4_, F3_⟩
                · replace c13 := Bool.eq_false_iff.mpr c13
                  subst c13
                  have H1 : (some (([] : List Int), false)) = some (r1, r2) := by rw [if_neg (show ¬ (false = true) by decide)] at H; exact H
                  clear H
                  have H := H1
                  clear H1
                  simp only [Option.some.injEq, Prod.mk.injEq] at H
                  obtain ⟨rfl, rfl⟩ := H
                  have p104 : 0 ≤ (x5_1 : Int) := of_decide_eq_true F2_
                  have q104 : x5_1 < (l0.length : Int) := of_decide_eq_true F2_
                  obtain ⟨ad104, e104, hx104_0, hx104_1, hx104_2, hx104_3⟩ := at_T130 HR0.out x5_1 p104 q104
                  cases e104
                  replace hx104_0 := (HB.out.cell (World.block_lt_of_cell? w _ hx104_0)).trans hx104_0
                  replace hx104_1 := (HB.out.cell (World.block_lt_of_cell? w _ hx104_1)).trans hx104_1
                  replace hx104_2 := (HB.out.cell (World.block_lt_of_cell? w _ hx104_2)).trans hx104_2
                  replace hx104_3 := (HB.out.cell (World.block_lt_of_cell? w _ hx104_3)).trans hx104_3
                  replace p104 := eq_true p104
                  replace q104 := eq_true q104
                  go_wp2_with (first | ((with_reducible refine gate_callee (f := 137) rfl ?_); refine goesL_ (some 28) rfl rfl Try.func137 (by kernel_rfl) rfl #[.int .i64 ((rd_T130 l0 x5_1).f0)] rfl F1_ ?_; (with_reducible refine (dunnageref04_small.calls ((rd_T130 l0 x5_1).f0) true _ A7.out).mono ?_); rintro e w' ⟨rfl, ⟨nd, rfl⟩⟩; refine ⟨_, rfl, ?_⟩; have p106 : 0 ≤ (x5_1 : Int) := of_decide_eq_true F2_; have q106 : x5_1 < (l0.length : Int) := of_decide_eq_true F2_; obtain ⟨ad106, e106, hx106_0, hx106_1, hx106_2, hx106_3⟩ := at_T130 HR0.out x5_1 p106 q106; obtain rfl : ad104 = ad106 := (by injection e106); replace hx106_0 := (HB.out.cell (World.block_lt_of_cell? w _ hx106_0)).trans hx106_0; replace hx106_1 := (HB.out.cell (World.block_lt_of_cell? w _ hx106_1)).trans hx106_1; replace hx106_2 := (HB.out.cell (World.block_lt_of_cell? w _ hx106_2)).trans hx106_2; replace hx106_3 := (HB.out.cell (World.block_lt_of_cell? w _ hx106_3)).trans hx106_3; replace p106 := eq_true p106; replace q106 := eq_true q106) | ((with_reducible refine gate_callee (f := 137) rfl ?_); refine goesL_ (some 34) rfl rfl Try.func137 (by kernel_rfl) rfl #[.int .i64 ((rd_T130 l0 x5_1).f1)] rfl F1_ ?_; (with_reducible refine (dunnageref04_small.calls ((rd_T130 l0 x5_1).f1) true _ A8.out).mono ?_); rintro e w' ⟨rfl, ⟨nd, rfl⟩⟩; refine ⟨_, rfl, ?_⟩; have p108 : 0 ≤ (x5_1 : Int) := of_decide_eq_true F2_; have q108 : x5_1 < (l0.length : Int) := of_decide_eq_true F2_; obtain ⟨ad108, e108, hx108_0, hx108_1, hx108_2, hx108_3⟩ := at_T130 HR0.out x5_1 p108 q108; obtain rfl : ad104 = ad108 := (by injection e108); replace hx108_0 := (HB.out.cell (World.block_lt_of_cell? w _ hx108_0)).trans hx108_0; replace hx108_1 := (HB.out.cell (World.block_lt_of_cell? w _ hx108_1)).trans hx108_1; replace hx108_2 := (HB.out.cell (World.block_lt_of_cell? w _ hx108_2)).trans hx108_2; replace hx108_3 := (HB.out.cell (World.block_lt_of_cell? w _ hx108_3)).trans hx108_3; replace p108 := eq_true p108; replace q108 := eq_true q108) | ((with_reducible refine gate_callee (f := 137) rfl ?_); refine goesL_ (some 40) rfl rfl Try.func137 (by kernel_rfl) rfl #[.int .i64 ((rd_T130 l0 x5_1).f2)] rfl F1_ ?_; (with_reducible refine (dunnageref04_small.calls ((rd_T130 l0 x5_1).f2) false _ A9.out).mono ?_); rintro e w' ⟨rfl, ⟨nd, rfl⟩⟩; refine ⟨_, rfl, ?_⟩; have p110 : 0 ≤ (x5_1 : Int) := of_decide_eq_true F2_; have q110 : x5_1 < (l0.length : Int) := of_decide_eq_true F2_; obtain ⟨ad110, e110, hx110_0, hx110_1, hx110_2, hx110_3⟩ := at_T130 HR0.out x5_1 p110 q110; obtain rfl : ad104 = ad110 := (by injection e110); replace hx110_0 := (HB.out.cell (World.block_lt_of_cell? w _ hx110_0)).trans hx110_0; replace hx110_1 := (HB.out.cell (World.block_lt_of_cell? w _ hx110_1)).trans hx110_1; replace hx110_2 := (HB.out.cell (World.block_lt_of_cell? w _ hx110_2)).trans hx110_2; replace hx110_3 := (HB.out.cell (World.block_lt_of_cell? w _ hx110_3)).trans hx110_3; replace p110 := eq_true p110; replace q110 := eq_true q110) | ((with_reducible refine gate_callee (f := 137) rfl ?_); refine goesL_ (some 46) rfl rfl Try.func137 (by kernel_rfl) rfl #[.int .i64 ((rd_T130 l0 x5_1).f3)] rfl F1_ ?_; (with_reducible refine (dunnageref04_small.calls ((rd_T130 l0 x5_1).f3) t111 _ A10.out).mono ?_); rintro e w' ⟨rfl, ⟨nd, rfl⟩⟩; refine ⟨_, rfl, ?_⟩))
                  go_ret2
                  exact ⟨_, F5_, F4_, F3_⟩
              · replace c12 := Bool.eq_false_iff.mpr c12
                subst c12
                have H1 : (some (([] : List Int), false)) = some (r1, r2) := by rw [if_neg (show ¬ (false = true) by decide)] at H; exact H
                clear H
                have H := H1
                clear H1
                simp only [Option.some.injEq, Prod.mk.injEq] at H
                obtain ⟨rfl, rfl⟩ := H
                have p104 : 0 ≤ (x5_1 : Int) := of_decide_eq_true F2_
                have q104 : x5_1 < (l0.length : Int) := of_decide_eq_true F2_
                obtain ⟨ad104, e104, hx104_0, hx104_1, hx104_2, hx104_3⟩ := at_T130 HR0.out x5_1 p104 q104
                cases e104
                replace hx104_0 := (HB.out.cell (World.block_lt_of_cell? w _ hx104_0)).trans hx104_0
                replace hx104_1 := (HB.out.cell (World.block_lt_of_cell? w _ hx104_1)).trans hx104_1
                replace hx104_2 := (HB.out.cell (World.block_lt_of_cell? w _ hx104_2)).trans hx104_2
                replace hx104_3 := (HB.out.cell (World.block_lt_of_cell? w _ hx104_3)).trans hx104_3
                replace p104 := eq_true p104
                replace q104 := eq_true q104
                go_wp2_with (first | ((with_reducible refine gate_callee (f := 137) rfl ?_); refine goesL_ (some 28) rfl rfl Try.func137 (by kernel_rfl) rfl #[.int .i64 ((rd_T130 l0 x5_1).f0)] rfl F1_ ?_; (with_reducible refine (dunnageref04_small.calls ((rd_T130 l0 x5_1).f0) true _ A7.out).mono ?_); rintro e w' ⟨rfl, ⟨nd, rfl⟩⟩; refine ⟨_, rfl, ?_⟩; have p106 : 0 ≤ (x5_1 : Int) := of_decide_eq_true F2_; have q106 : x5_1 < (l0.length : Int) := of_decide_eq_true F2_; obtain ⟨ad106, e106, hx106_0, hx106_1, hx106_2, hx106_3⟩ := at_T130 HR0.out x5_1 p106 q106; obtain rfl : ad104 = ad106 := (by injection e106); replace hx106_0 := (HB.out.cell (World.block_lt_of_cell? w _ hx106_0)).trans hx106_0; replace hx106_1 := (HB.out.cell (World.block_lt_of_cell? w _ hx106_1)).trans hx106_1; replace hx106_2 := (HB.out.cell (World.block_lt_of_cell? w _ hx106_2)).trans hx106_2; replace hx106_3 := (HB.out.cell (World.block_lt_of_cell? w _ hx106_3)).trans hx106_3; replace p106 := eq_true p106; replace q106 := eq_true q106) | ((with_reducible refine gate_callee (f := 137) rfl ?_); refine goesL_ (some 34) rfl rfl Try.func137 (by kernel_rfl) rfl #[.int .i64 ((rd_T130 l0 x5_1).f1)] rfl F1_ ?_; (with_reducible refine (dunnageref04_small.calls ((rd_T130 l0 x5_1).f1) false _ A8.out).mono ?_); rintro e w' ⟨rfl, ⟨nd, rfl⟩⟩; refine ⟨_, rfl, ?_⟩; have p108 : 0 ≤ (x5_1 : Int) := of_decide_eq_true F2_; have q108 : x5_1 < (l0.length : Int) := of_decide_eq_true F2_; obtain ⟨ad108, e108, hx108_0, hx108_1, hx108_2, hx108_3⟩ := at_T130 HR0.out x5_1 p108 q108; obtain rfl : ad104 = ad108 := (by injection e108); replace hx108_0 := (HB.out.cell (World.block_lt_of_cell? w _ hx108_0)).trans hx108_0; replace hx108_1 := (HB.out.cell (World.block_lt_of_cell? w _ hx108_1)).trans hx108_1; replace hx108_2 := (HB.out.cell (World.block_lt_of_cell? w _ hx108_2)).trans hx108_2; replace hx108_3 := (HB.out.cell (World.block_lt_of_cell? w _ hx108_3)).trans hx108_3; replace p108 := eq_true p108; replace q108 := eq_true q108) | ((with_reducible refine gate_callee (f := 137) rfl ?_); refine goesL_ (some 40) rfl rfl Try.func137 (by kernel_rfl) rfl #[.int .i64 ((rd_T130 l0 x5_1).f2)] rfl F1_ ?_; (with_reducible refine (dunnageref04_small.calls ((rd_T130 l0 x5_1).f2) t109 _ A9.out).mono ?_); rintro e w' ⟨rfl, ⟨nd, rfl⟩⟩; refine ⟨_, rfl, ?_⟩; have p110 : 0 ≤ (x5_1 : Int) := of_decide_eq_true F2_; have q110 : x5_1 < (l0.length : Int) := of_decide_eq_true F2_; obtain ⟨ad110, e110, hx110_0, hx110_1, hx110_2, hx110_3⟩ := at_T130 HR0.out x5_1 p110 q110; obtain rfl : ad104 = ad110 := (by injection e110); replace hx110_0 := (HB.out.cell (World.block_lt_of_cell? w _ hx110_0)).trans hx110_0; replace hx110_1 := (HB.out.cell (World.block_lt_of_cell? w _ hx110_1)).trans hx110_1; replace hx110_2 := (HB.out.cell (World.block_lt_of_cell? w _ hx110_2)).trans hx110_2; replace hx110_3 := (HB.out.cell (World.block_lt_of_cell? w _ hx110_3)).trans hx110_3; replace p110 := eq_true p110; replace q110 := eq_true q110) | ((with_reducible refine gate_callee (f := 137) rfl ?_); refine goesL_ (some 46) rfl rfl Try.func137 (by kernel_rfl) rfl #[.int .i64 ((rd_T130 l0 x5_1).f3)] rfl F1_ ?_; (with_reducible refine (dunnageref04_small.calls ((rd_T130 l0 x5_1).f3) t111 _ A10.out).mono ?_); rintro e w' ⟨rfl, ⟨nd, rfl⟩⟩; refine ⟨_, rfl, ?_⟩))
                go_ret2
                exact ⟨_, F5_, F4_, F3_⟩
            · replace c11 := Bool.eq_false_iff.mpr c11
              subst c11
              have H1 : (some (([] : List Int), false)) = some (r1, r2) := by rw [if_neg (show ¬ (false = true) by decide)] at H; exact H
              clear H
              have H := H1
              clear H1
              simp only [Option.some.injEq, Prod.mk.injEq] at H
              obtain ⟨rfl, rfl⟩ := H
              have p104 : 0 ≤ (x5_1 : Int) := of_decide_eq_true F2_
              have q104 : x5_1 < (l0.length : Int) := of_decide_eq_true F2_
              obtain ⟨ad104, e104, hx104_0, hx104_1, hx104_2, hx104_3⟩ := at_T130 HR0.out x5_1 p104 q104
              cases e104
              replace hx104_0 := (HB.out.cell (World.block_lt_of_cell? w _ hx104_0)).trans hx104_0
              replace hx104_1 := (HB.out.cell (World.block_lt_of_cell? w _ hx104_1)).trans hx104_1
              replace hx104_2 := (HB.out.cell (World.block_lt_of_cell? w _ hx104_2)).trans hx104_2
              replace hx104_3 := (HB.out.cell (World.block_lt_of_cell? w _ hx104_3)).trans hx104_3
              replace p104 := eq_true p104
              replace q104 := eq_true q104
              go_wp2_with (first | ((with_reducible refine gate_callee (f := 137) rfl ?_); refine goesL_ (some 28) rfl rfl Try.func137 (by kernel_rfl) rfl #[.int .i64 ((rd_T130 l0 x5_1).f0)] rfl F1_ ?_; (with_reducible refine (dunnageref04_small.calls ((rd_T130 l0 x5_1).f0) false _ A7.out).mono ?_); rintro e w' ⟨rfl, ⟨nd, rfl⟩⟩; refine ⟨_, rfl, ?_⟩; have p106 : 0 ≤ (x5_1 : Int) := of_decide_eq_true F2_; have q106 : x5_1 < (l0.length : Int) := of_decide_eq_true F2_; obtain ⟨ad106, e106, hx106_0, hx106_1, hx106_2, hx106_3⟩ := at_T130 HR0.out x5_1 p106 q106; obtain rfl : ad104 = ad106 := (by injection e106); replace hx106_0 := (HB.out.cell (World.block_lt_of_cell? w _ hx106_0)).trans hx106_0; replace hx106_1 := (HB.out.cell (World.block_lt_of_cell? w _ hx106_1)).trans hx106_1; replace hx106_2 := (HB.out.cell (World.block_lt_of_cell? w _ hx106_2)).trans hx106_2; replace hx106_3 := (HB.out.cell (World.block_lt_of_cell? w _ hx106_3)).trans hx106_3; replace p106 := eq_true p106; replace q106 := eq_true q106) | ((with_reducible refine gate_callee (f := 137) rfl ?_); refine goesL_ (some 34) rfl rfl Try.func137 (by kernel_rfl) rfl #[.int .i64 ((rd_T130 l0 x5_1).f1)] rfl F1_ ?_; (with_reducible refine (dunnageref04_small.calls ((rd_T130 l0 x5_1).f1) t107 _ A8.out).mono ?_); rintro e w' ⟨rfl, ⟨nd, rfl⟩⟩; refine ⟨_, rfl, ?_⟩; have p108 : 0 ≤ (x5_1 : Int) := of_decide_eq_true F2_; have q108 : x5_1 < (l0.length : Int) := of_decide_eq_true F2_; obtain ⟨ad108, e108, hx108_0, hx108_1, hx108_2, hx108_3⟩ := at_T130 HR0.out x5_1 p108 q108; obtain rfl : ad104 = ad108 := (by injection e108); replace hx108_0 := (HB.out.cell (World.block_lt_of_cell? w _ hx108_0)).trans hx108_0; replace hx108_1 := (HB.out.cell (World.block_lt_of_cell? w _ hx108_1)).trans hx108_1; replace hx108_2 := (HB.out.cell (World.block_lt_of_cell? w _ hx108_2)).trans hx108_2; replace hx108_3 := (HB.out.cell (World.block_lt_of_cell? w _ hx108_3)).trans hx108_3; replace p108 := eq_true p108; replace q108 := eq_true q108) | ((with_reducible refine gate_callee (f := 137) rfl ?_); refine goesL_ (some 40) rfl rfl Try.func137 (by kernel_rfl) rfl #[.int .i64 ((rd_T130 l0 x5_1).f2)] rfl F1_ ?_; (with_reducible refine (dunnageref04_small.calls ((rd_T130 l0 x5_1).f2) t109 _ A9.out).mono ?_); rintro e w' ⟨rfl, ⟨nd, rfl⟩⟩; refine ⟨_, rfl, ?_⟩; have p110 : 0 ≤ (x5_1 : Int) := of_decide_eq_true F2_; have q110 : x5_1 < (l0.length : Int) := of_decide_eq_true F2_; obtain ⟨ad110, e110, hx110_0, hx110_1, hx110_2, hx110_3⟩ := at_T130 HR0.out x5_1 p110 q110; obtain rfl : ad104 = ad110 := (by injection e110); replace hx110_0 := (HB.out.cell (World.block_lt_of_cell? w _ hx110_0)).trans hx110_0; replace hx110_1 := (HB.out.cell (World.block_lt_of_cell? w _ hx110_1)).trans hx110_1; replace hx110_2 := (HB.out.cell (World.block_lt_of_cell? w _ hx110_2)).trans hx110_2; replace hx110_3 := (HB.out.cell (World.block_lt_of_cell? w _ hx110_3)).trans hx110_3; replace p110 := eq_true p110; replace q110 := eq_true q110) | ((with_reducible refine gate_callee (f := 137) rfl ?_); refine goesL_ (some 46) rfl rfl Try.func137 (by kernel_rfl) rfl #[.int .i64 ((rd_T130 l0 x5_1).f3)] rfl F1_ ?_; (with_reducible refine (dunnageref04_small.calls ((rd_T130 l0 x5_1).f3) t111 _ A10.out).mono ?_); rintro e w' ⟨rfl, ⟨nd, rfl⟩⟩; refine ⟨_, rfl, ?_⟩))
              go_ret2
              exact ⟨_, F5_, F4_, F3_⟩
          · rw [if_neg c6] at H
            exact absurd H (by simp)
        · rw [if_neg c5] at H
          have c5b0 : decide (x5_1 < (l0.length : Int)) = false := decide_eq_false c5
          clear c5
          simp only [Option.some.injEq, Prod.mk.injEq] at H
          obtain ⟨rfl, rfl⟩ := H
          go_wp2
          go_ret2
          exact ⟨_, F5_, by (with_reducible repeat (first | apply Kd.R_alloc | apply Kd.R_drewN | apply Kd.R_drew)); exact HO_4.out, F3_⟩

end Go.Proofs.Ytppfkbigeknedaa.Q
