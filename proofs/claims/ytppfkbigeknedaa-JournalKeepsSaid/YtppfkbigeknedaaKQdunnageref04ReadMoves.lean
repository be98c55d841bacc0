import Derived.Test.YtppfkbigeknedaaKQ0
import Derived.Test.YtppfkbigeknedaaKQdunnageref02All
import Derived.Test.YtppfkbigeknedaaKQdunnageref04number
namespace Go.Proofs.Ytppfkbigeknedaa.Q
open Go.RowKit Go.Proofs.YtppfkbigeknedaaW.PrintWords Go.Proofs.YtppfkbigeknedaaW.PrintLast Go.Proofs.YtppfkbigeknedaaW.PrintMore
attribute [local go_sem] max2_int min2_int max_two min_two max_three min_three max_four min_four   -- for this text's walks alone
set_option linter.unusedVariables false
set_option linter.unusedSimpArgs false

attribute [local go_sem] eqe_ii eqe_nn eqe_ni eqe_nni
namespace FoldQdunnageref04ReadMoves
theorem F1_ {p : Prop} (h : p := by first | (with_reducible assumption) | assumption) : p := h
theorem F2_ {p : Prop} (h : p := by repeat (first | (with_reducible first | exact HB.out | apply below_alloc | apply pw_below_drewN | apply below_drew1) | exact HB.out)) : p := h
theorem F3_ {p : Prop} (h : p := by repeat (first | (with_reducible first | exact HB.out | apply below_alloc | apply pw_below_drewN | apply below_drew1) | exact HB.out)) : p := h
theorem F4_ {p : Prop} (h : p := by first | exact Kd.R_nil _ _ _ _ _ | exact Kd.N_nil _ _ _ _ _ | exact Kd.V_nil _ _ _ _ _ | exact Kd.Q_nil _ _ _ _ _ | exact Kd.S_nil _ _ _ _ _) : p := h
theorem F5_ {p : Prop} (h : p := by (try simp only [List.map_toArray, List.map_cons, List.map_nil]); first | done | (simp only [hji17]; rfl) | rfl | (simp only [List.length_drop, List.length_take]; rfl)) : p := h
theorem F6_ {p : Prop} (h : p := by (try simp only [List.map_toArray, List.map_cons, List.map_nil]); first | done | (simp only [hji21]; rfl) | rfl | (simp only [List.length_drop, List.length_take]; rfl)) : p := h
theorem F7_ {p : Prop} (h : p := by (try simp only [List.map_toArray, List.map_cons, List.map_nil]); first | done | (simp only [hji25]; rfl) | rfl | (simp only [List.length_drop, List.length_take]; rfl)) : p := h
theorem F8_ {p : Prop} (h : p := by (try simp only [List.map_toArray, List.map_cons, List.map_nil]); first | done | (simp only [hji29]; rfl) | rfl | (simp only [List.length_drop, List.length_take]; rfl)) : p := h
theorem F9_ {p : Prop} (h : p := by repeat (first | exact HR0.out | (with_reducible refine Kd.C_alloc ?_ _) | (with_reducible refine Kd.C_drewN ?_ _) | (with_reducible refine Kd.C_drew ?_))) : p := h
theorem F10_ {p : Prop} (h : p := by first | rfl | (simp [errW_none, errW_some] <;> rfl) | (simp only [← hji17, ← hji21, ← hji25, ← hji29]; first | rfl | (simp [errW_none, errW_some] <;> rfl)) | (simp [*, errW_none, errW_some] <;> rfl)) : p := h
theorem F11_ {p : Prop} (h : p := by (try simp only [List.map_toArray, List.map_cons, List.map_nil]); first | done | rfl | (simp only [List.length_drop, List.length_take]; rfl)) : p := h
theorem F12_ {p : Prop} (h : p := by first | rfl | (simp [errW_none, errW_some] <;> rfl) | (simp [*, errW_none, errW_some] <;> rfl)) : p := h
end FoldQdunnageref04ReadMoves
open FoldQdunnageref04ReadMoves
def dunnageref04_ReadMoves.l0 : Nat → List Int → List (S130) → Int → Option ((List (S130)) × Int × Int)
  | 0, _, _, _ => none
  | k + 1, x5, x7, x8 => if 0 < (x5.length : Int) then (if x8 < (wrap64 (rd x5 0)) then (if 0 ≤ (wrap64 (1 + (wrap64 (4 * x8)))) then (if (wrap64 (1 + (wrap64 (4 * x8)))) < (x5.length : Int) then ((dunnageref04_number.f (rd x5 (wrap64 (1 + (wrap64 (4 * x8)))))).bind fun bt109 => (if 0 ≤ (wrap64 ((wrap64 (1 + (wrap64 (4 * x8)))) + 1)) then (if (wrap64 ((wrap64 (1 + (wrap64 (4 * x8)))) + 1)) < (x5.length : Int) then ((dunnageref04_number.f (rd x5 (wrap64 ((wrap64 (1 + (wrap64 (4 * x8)))) + 1)))).bind fun bt112 => (if 0 ≤ (wrap64 ((wrap64 (1 + (wrap64 (4 * x8)))) + 2)) then (if (wrap64 ((wrap64 (1 + (wrap64 (4 * x8)))) + 2)) < (x5.length : Int) then ((dunnageref04_number.f (rd x5 (wrap64 ((wrap64 (1 + (wrap64 (4 * x8)))) + 2)))).bind fun bt115 => (if 0 ≤ (wrap64 ((wrap64 (1 + (wrap64 (4 * x8)))) + 3)) then (if (wrap64 ((wrap64 (1 + (wrap64 (4 * x8)))) + 3)) < (x5.length : Int) then ((dunnageref04_number.f (rd x5 (wrap64 ((wrap64 (1 + (wrap64 (4 * x8)))) + 3)))).bind fun bt118 => (if bt109.2 = true then (if bt112.2 = true then (if bt115.2 = true then (if bt118.2 = true then (if x7.length < 4398046511104 then (dunnageref04_ReadMoves.l0 k x5 (x7 ++ [(⟨bt109.1, bt112.1, bt115.1, bt118.1⟩ : S130)]) (wrap64 (x8 + 1))) else (none)) else (some (([] : List (S130)), 2, (-1)))) else (some (([] : List (S130)), 2, (-1)))) else (some (([] : List (S130)), 2, (-1)))) else (some (([] : List (S130)), 2, (-1))))) else (none)) else (none))) else (none)) else (none))) else (none)) else (none))) else (none)) else (none)) else (some (x7, 0, (-1)))) else (none)
def dunnageref04_ReadMoves.f (k : Nat) (l0 : List Int) : Option ((List (S130)) × Int × Int) := (dunnageref02_All.f k l0).bind fun bt101 => (if bt101.2 ≥ 0 then (some (([] : List (S130)), 2, bt101.2)) else (if (bt101.1.length : Int) < 1 then (some (([] : List (S130)), 2, (-1))) else (if 0 < (bt101.1.length : Int) then (if (rd bt101.1 0) > 40 then (some (([] : List (S130)), 3, (-1))) else (if (bt101.1.length : Int) = (wrap64 (1 + (wrap64 (4 * (wrap64 (rd bt101.1 0)))))) then (dunnageref04_ReadMoves.l0 k bt101.1 ([] : List (S130)) 0) else (some (([] : List (S130)), 2, (-1))))) else (none))))
theorem dunnageref04_ReadMoves.mono_l : ∀ k, (∀ y0 y1 y2, LeO (dunnageref04_ReadMoves.l0 k y0 y1 y2) (dunnageref04_ReadMoves.l0 (k + 1) y0 y1 y2))
  | 0 => fun _ _ _ r h => by simp [dunnageref04_ReadMoves.l0] at h
  | k + 1 => by
    have ih0 := dunnageref04_ReadMoves.mono_l k
    · intro y0 y1 y2
      unfold dunnageref04_ReadMoves.l0
      repeat' first
      | (with_reducible exact ih0 _ _ _)
      | (with_reducible exact dunnageref02_All.mono _ _)
      | (with_reducible exact LeO.refl _)
      | (with_reducible exact LeO.none _)
      | (with_reducible refine LeO.ite ?_ ?_)
      | (with_reducible refine LeO.bind ?_ (fun _ => ?_))
      | exact ih0 _ _ _
      | exact dunnageref02_All.mono _ _
      | exact LeO.none _
      | refine LeO.ite ?_ ?_
      | refine LeO.bind ?_ (fun _ => ?_)
theorem dunnageref04_ReadMoves.mono : ∀ a0 k, LeO (dunnageref04_ReadMoves.f k a0) (dunnageref04_ReadMoves.f (k + 1) a0) := by
  intro a0 k
  have ih0 := dunnageref04_ReadMoves.mono_l k
  unfold dunnageref04_ReadMoves.f
  repeat' first
      | (with_reducible exact ih0 _ _ _)
      | (with_reducible exact dunnageref02_All.mono _ _)
      | (with_reducible exact LeO.refl _)
      | (with_reducible exact LeO.none _)
      | (with_reducible refine LeO.ite ?_ ?_)
      | (with_reducible refine LeO.bind ?_ (fun _ => ?_))
      | exact ih0 _ _ _
      | exact dunnageref02_All.mono _ _
      | exact LeO.none _
      | refine LeO.ite ?_ ?_
      | refine LeO.bind ?_ (fun _ => ?_)
set_option maxHeartbeats 8000000 in
set_option maxRecDepth 100000 in
theorem dunnageref04_ReadMoves.calls (k : Nat) (A0 : Option Addr) (c0 : Nat) (l0 : List Int) (r1 : List (S130)) (r2 : Int) (r3 : Int) (w : World) (hr0 : Kd.C (Kd.int .u8) w A0 l0.length l0) (hc0 : l0.length ≤ c0) (h : dunnageref04_ReadMoves.f k l0 = some (r1, r2, r3)) :
    Calls Try.prog 145 #[.slice A0 l0.length c0] w fun e w' => ∃ v0_ : Value, e = .returned (.tuple #[v0_, .int .i64 r2, .int .i64 r3]) ∧ Kd.R k130 130 w' w.heap.size (fun _ => True) v0_ r1 ∧ Below w.heap.size w w' := by
  have hu130 := Try.underlying130
  have HR0 := Aside0.mk hr0
  have HC0 := Aside0.mk hc0
  clear hr0 hc0
  have HB := Aside0.mk (Below.refl w.heap.size w)
  have H : ((dunnageref02_All.f k l0).bind fun bt101 => (if bt101.2 ≥ 0 then (some (([] : List (S130)), 2, bt101.2)) else (if (bt101.1.length : Int) < 1 then (some (([] : List (S130)), 2, (-1))) else (if 0 < (bt101.1.length : Int) then (if (rd bt101.1 0) > 40 then (some (([] : List (S130)), 3, (-1))) else (if (bt101.1.length : Int) = (wrap64 (1 + (wrap64 (4 * (wrap64 (rd bt101.1 0)))))) then (dunnageref04_ReadMoves.l0 k bt101.1 ([] : List (S130)) 0) else (some (([] : List (S130)), 2, (-1))))) else (none))))) = some (r1, r2, r3) := h
  clear h
  replace H := Option.bind_eq_some_iff.mp H
  obtain ⟨⟨t101, t102⟩, A20, H⟩ := H
  replace H : (if t102 ≥ 0 then (some (([] : List (S130)), 2, t102)) else (if (t101.length : Int) < 1 then (some (([] : List (S130)), 2, (-1))) else (if 0 < (t101.length : Int) then (if (rd t101 0) > 40 then (some (([] : List (S130)), 3, (-1))) else (if (t101.length : Int) = (wrap64 (1 + (wrap64 (4 * (wrap64 (rd t101 0)))))) then (dunnageref04_ReadMoves.l0 k t101 ([] : List (S130)) 0) else (some (([] : List (S130)), 2, (-1))))) else (none)))) = some (r1, r2, r3) := H
  have A2 := Aside0.mk A20
  clear A20
  by_cases c3 : t102 ≥ 0
  · rw [if_pos c3] at H
    have c3b0 : decide (0 ≤ t102) = true := decide_eq_true c3
    clear c3
    simp only [Option.some.injEq, Prod.mk.injEq] at H
    obtain ⟨rfl, rfl, rfl⟩ := H
    go_enter Try.func145, Try.ntmps145
    go_wp2_with (first | ((with_reducible refine gate_callee (f := 146) rfl ?_); refine goesL_ (some 20) rfl rfl Try.func146 (by kernel_rfl) rfl #[.slice A0 l0.length c0] rfl F11_ ?_; (with_reducible refine (dunnageref02_All.calls k _ _ l0 t101 t102 _ ?side1 ?side2 A2.out).mono ?_); (case side1 => exact F9_); (case side2 => exact HC0.out); rintro e w4 ⟨v103, rfl, ho0, hb⟩; refine ⟨_, rfl, ?_⟩; have n0_ := Aside0.mk (Kd.R_lower ho0 (below_size F2_)); have n1_ := Aside0.mk (below_step F2_ hb); clear HB; have HO104 := n0_; have HB := n1_; clear n0_ n1_; (try clear hb); (try clear hb2); (try clear hk); (try clear hi); (try clear ho0)))
    go_ret3
    exact ⟨_, F12_, F4_, F3_⟩
  · rw [if_neg c3] at H
    have c3b0 : decide (0 ≤ t102) = false := decide_eq_false c3
    clear c3
    by_cases c5 : (t101.length : Int) < 1
    · rw [if_pos c5] at H
      have c5b0 : decide ((t101.length : Int) < 1) = true := decide_eq_true c5
      have c5b1 : decide (t101.length < 1) = true := decide_eq_true (by omega)
      clear c5
      simp only [Option.some.injEq, Prod.mk.injEq] at H
      obtain ⟨rfl, rfl, rfl⟩ := H
      go_enter Try.func145, Try.ntmps145
      go_wp2_with (first | ((with_reducible refine gate_callee (f := 146) rfl ?_); refine goesL_ (some 20) rfl rfl Try.func146 (by kernel_rfl) rfl #[.slice A0 l0.length c0] rfl F11_ ?_; (with_reducible refine (dunnageref02_All.calls k _ _ l0 t101 t102 _ ?side1 ?side2 A2.out).mono ?_); (case side1 => exact F9_); (case side2 => exact HC0.out); rintro e w6 ⟨v103, rfl, ho0, hb⟩; refine ⟨_, rfl, ?_⟩; have n0_ := Aside0.mk (Kd.R_lower ho0 (below_size F2_)); have n1_ := Aside0.mk (below_step F2_ hb); clear HB; have HO104 := n0_; have HB := n1_; clear n0_ n1_; (try clear hb); (try clear hb2); (try clear hk); (try clear hi); (try clear ho0); obtain ⟨Ao7, co7, eo7⟩ := Kd.R_slice HO104.out; subst eo7))
      go_ret3
      exact ⟨_, F12_, F4_, F3_⟩
    · rw [if_neg c5] at H
      have c5b0 : decide ((t101.length : Int) < 1) = false := decide_eq_false c5
      have c5b1 : decide (t101.length < 1) = false := decide_eq_false (by omega)
      clear c5
      by_cases c8 : 0 < (t101.length : Int)
      · rw [if_pos c8] at H
        have c8b0 : decide (0 < (t101.length : Int)) = true := decide_eq_true c8
        have c8b1 : decide (0 < t101.length) = true := decide_eq_true (by omega)
        clear c8
        by_cases c9 : (rd t101 0) > 40
        · rw [if_pos c9] at H
          have c9b0 : decide (40 < (rd t101 0)) = true := decide_eq_true c9
          clear c9
          simp only [Option.some.injEq, Prod.mk.injEq] at H
          obtain ⟨rfl, rfl, rfl⟩ := H
          go_enter Try.func145, Try.ntmps145
          go_wp2_with (first | ((with_reducible refine gate_callee (f := 146) rfl ?_); refine goesL_ (some 20) rfl rfl Try.func146 (by kernel_rfl) rfl #[.slice A0 l0.length c0] rfl F11_ ?_; (with_reducible refine (dunnageref02_All.calls k _ _ l0 t101 t102 _ ?side1 ?side2 A2.out).mono ?_); (case side1 => exact F9_); (case side2 => exact HC0.out); rintro e w10 ⟨v103, rfl, ho0, hb⟩; refine ⟨_, rfl, ?_⟩; have n0_ := Aside0.mk (Kd.R_lower ho0 (below_size F2_)); have n1_ := Aside0.mk (below_step F2_ hb); clear HB; have HO104 := n0_; have HB := n1_; clear n0_ n1_; (try clear hb); (try clear hb2); (try clear hk); (try clear hi); (try clear ho0); obtain ⟨Ao11, co11, eo11⟩ := Kd.R_slice HO104.out; subst eo11; have p105 : 0 ≤ (0 : Int) := (by omega); have q105 : 0 < (t101.length : Int) := of_decide_eq_true F1_; obtain ⟨ad105, e105, hx105_0⟩ := Kd.at_int (Kd.R_reads' HO104.out).2.2 0 p105 q105; cases e105; have qi105 : (0 < t101.length) = True := eq_true (by omega); (try rw [show ((0 : Int)).toNat = 0 from rfl] at hx105_0); (try rw [Addr.add_zero'] at hx105_0); replace p105 := eq_true p105; replace q105 := eq_true q105))
          go_ret3
          exact ⟨_, F12_, F4_, F3_⟩
        · rw [if_neg c9] at H
          have c9b0 : decide (40 < (rd t101 0)) = false := decide_eq_false c9
          clear c9
          by_cases c12 : (t101.length : Int) = (wrap64 (1 + (wrap64 (4 * (wrap64 (rd t101 0))))))
          · rw [if_pos c12] at H
            have c12b0 : ((t101.length : Int) == (wrap64 (1 + (wrap64 (4 * (wrap64 (rd t101 0))))))) = true := beq_iff_eq.mpr c12
            have c12b1 : ((t101.length : Int) != (wrap64 (1 + (wrap64 (4 * (wrap64 (rd t101 0))))))) = false := bne_eq_false_iff_eq.mpr c12
            clear c12
            have H' := Aside0.mk H
            clear H
            go_enter Try.func145, Try.ntmps145
            go_wp2_with (first | ((with_reducible refine gate_callee (f := 146) rfl ?_); refine goesL_ (some 20) rfl rfl Try.func146 (by kernel_rfl) rfl #[.slice A0 l0.length c0] rfl F11_ ?_; (with_reducible refine (dunnageref02_All.calls k _ _ l0 t101 t102 _ ?side1 ?side2 A2.out).mono ?_); (case side1 => exact F9_); (case side2 => exact HC0.out); rintro e w13 ⟨v103, rfl, ho0, hb⟩; refine ⟨_, rfl, ?_⟩; have n0_ := Aside0.mk (Kd.R_lower ho0 (below_size F2_)); have n1_ := Aside0.mk (below_step F2_ hb); clear HB; have HO104 := n0_; have HB := n1_; clear n0_ n1_; (try clear hb); (try clear hb2); (try clear hk); (try clear hi); (try clear ho0); obtain ⟨Ao14, co14, eo14⟩ := Kd.R_slice HO104.out; subst eo14; have p105 : 0 ≤ (0 : Int) := (by omega); have q105 : 0 < (t101.length : Int) := of_decide_eq_true F1_; obtain ⟨ad105, e105, hx105_0⟩ := Kd.at_int (Kd.R_reads' HO104.out).2.2 0 p105 q105; cases e105; have qi105 : (0 < t101.length) = True := eq_true (by omega); (try rw [show ((0 : Int)).toNat = 0 from rfl] at hx105_0); (try rw [Addr.add_zero'] at hx105_0); replace p105 := eq_true p105; replace q105 := eq_true q105; have p106 : 0 ≤ (0 : Int) := (by omega); have q106 : 0 < (t101.length : Int) := of_decide_eq_true F1_; obtain ⟨ad106, e106, hx106_0⟩ := Kd.at_int (Kd.R_reads' HO104.out).2.2 0 p106 q106; obtain rfl : ad105 = ad106 := (by injection e106); have qi106 : (0 < t101.length) = True := eq_true (by omega); (try rw [show ((0 : Int)).toNat = 0 from rfl] at hx106_0); (try rw [Addr.add_zero'] at hx106_0); replace p106 := eq_true p106; replace q106 := eq_true q106))
            go_loopg [7, 8] k (fun kq v7 v8 w' => ∃ (x7_1 : List (S130)) (x8_1 : Int), v8 = .int .i64 x8_1 ∧ Aside0 (dunnageref04_ReadMoves.l0 kq t101 x7_1 x8_1 = some (r1, r2, r3)) ∧ Aside0 (kq ≤ k) ∧ Aside0 (Kd.R (Kd.int .u64) 31 w' w.heap.size (fun _ => True) (.slice (some ad105) t101.length co14) t101) ∧ Aside0 (Kd.R k130 130 w' w.heap.size (fun _ => True) v7 x7_1) ∧ Aside0 (Below w.heap.size w w'))
            case atStart => exact ⟨(([] : List (S130))), (0), (by first | rfl | (simp; done) | (simp [*]; done)), H', ⟨Nat.le_refl _⟩, ⟨by (with_reducible repeat (first | apply Kd.R_alloc | apply Kd.R_drewN | apply Kd.R_drew)); exact HO104.out⟩, ⟨F4_⟩, ⟨F3_⟩⟩
            case round =>
              clear H'
              try clear c1
              try clear p1
              try clear q1
              try clear hx1
              try clear qi1
              try clear p2
              try clear c3
              try clear c3b0
              try clear c5
              try clear c5b0
              try clear c5b1
              try clear p6
              try clear c8
              try clear c8b0
              try clear c8b1
              try clear c9
              try clear c9b0
              try clear p10
              try clear q10
              try clear hx10
              try clear qi10
              try clear c12
              try clear c12b0
              try clear c12b1
              try clear c14
              try clear hx105_0
              try clear hx106_0
              try clear p105
              try clear p106
              try clear q105
              try clear q106
              obtain ⟨x7_1, x8_1, rfl, HA, HK1, HO_5, HO_7, HB⟩ := hrel
              cases gk with
              | zero => exact absurd HA.out (by simp [dunnageref04_ReadMoves.l0])
              | succ k1 =>
                have H := HA.out
                clear HA
                simp only [dunnageref04_ReadMoves.l0] at H
                by_cases c15 : 0 < (t101.length : Int)
                · rw [if_pos c15] at H
                  have c15b0 : decide (0 < (t101.length : Int)) = true := decide_eq_true c15
                  have c15b1 : decide (0 < t101.length) = true := decide_eq_true (by omega)
                  clear c15
                  by_cases c16 : x8_1 < (wrap64 (rd t101 0))
                  · rw [if_pos c16] at H
                    have c16b0 : decide (x8_1 < (wrap64 (rd t101 0))) = true := decide_eq_true c16
                    clear c16
                    obtain ⟨ji17, hji17⟩ : ∃ j_ : Int, (wrap64 (1 + (wrap64 (4 * x8_1)))) = j_ := ⟨_, rfl⟩
                    replace H : (if 0 ≤ (ji17) then (if (ji17) < (t101.length : Int) then ((dunnageref04_number.f (rd t101 (ji17))).bind fun bt109 => (if 0 ≤ (wrap64 ((ji17) + 1)) then (if (wrap64 ((ji17) + 1)) < (t101.length : Int) then ((dunnageref04_number.f (rd t101 (wrap64 ((ji17) + 1)))).bind fun bt112 => (if 0 ≤ (wrap64 ((ji17) + 2)) then (if (wrap64 ((ji17) + 2)) < (t101.length : Int) then ((dunnageref04_number.f (rd t101 (wrap64 ((ji17) + 2)))).bind fun bt115 => (if 0 ≤ (wrap64 ((ji17) + 3)) then (if (wrap64 ((ji17) + 3)) < (t101.length : Int) then ((dunnageref04_number.f (rd t101 (wrap64 ((ji17) + 3)))).bind fun bt118 => (if bt109.2 = true then (if bt112.2 = true then (if bt115.2 = true then (if bt118.2 = true then (if x7_1.length < 4398046511104 then (dunnageref04_ReadMoves.l0 k1 t101 (x7_1 ++ [(⟨bt109.1, bt112.1, bt115.1, bt118.1⟩ : S130)]) (wrap64 (x8_1 + 1))) else (none)) else (some (([] : List (S130)), 2, (-1)))) else (some (([] : List (S130)), 2, (-1)))) else (some (([] : List (S130)), 2, (-1)))) else (some (([] : List (S130)), 2, (-1))))) else (none)) else (none))) else (none)) else (none))) else (none)) else (none))) else (none)) else (none)) = some (r1, r2, r3) := by first | (rw [hji17] at H; exact H) | (simp only [hji17] at H ⊢; exact H)
                    have hji17w : (IntKind.i64.wrap (1 + (wrap64 (4 * x8_1)))) = ji17 := (i64_w _).trans hji17
                    by_cases c18 : 0 ≤ (ji17)
                    · rw [if_pos c18] at H
                      have c18b0 : decide (0 ≤ (ji17)) = true := decide_eq_true c18
                      clear c18
                      by_cases c19 : (ji17) < (t101.length : Int)
                      · rw [if_pos c19] at H
                        have c19b0 : decide ((ji17) < (t101.length : Int)) = true := decide_eq_true c19
                        clear c19
                        replace H := Option.bind_eq_some_iff.mp H
                        obtain ⟨⟨t109, t110⟩, A200, H⟩ := H
                        replace H : (if 0 ≤ (wrap64 ((ji17) + 1)) then (if (wrap64 ((ji17) + 1)) < (t101.length : Int) then ((dunnageref04_number.f (rd t101 (wrap64 ((ji17) + 1)))).bind fun bt112 => (if 0 ≤ (wrap64 ((ji17) + 2)) then (if (wrap64 ((ji17) + 2)) < (t101.length : Int) then ((dunnageref04_number.f (rd t101 (wrap64 ((ji17) + 2)))).bind fun bt115 => (if 0 ≤ (wrap64 ((ji17) + 3)) then (if (wrap64 ((ji17) + 3)) < (t101.length : Int) then ((dunnageref04_number.f (rd t101 (wrap64 ((ji17) + 3)))).bind fun bt118 => (if t110 = true then (if bt112.2 = true then (if bt115.2 = true then (if bt118.2 = true then (if x7_1.length < 4398046511104 then (dunnageref04_ReadMoves.l0 k1 t101 (x7_1 ++ [(⟨t109, bt112.1, bt115.1, bt118.1⟩ : S130)]) (wrap64 (x8_1 + 1))) else (none)) else (some (([] : List (S130)), 2, (-1)))) else (some (([] : List (S130)), 2, (-1)))) else (some (([] : List (S130)), 2, (-1)))) else (some (([] : List (S130)), 2, (-1))))) else (none)) else (none))) else (none)) else (none))) else (none)) else (none)) = some (r1, r2, r3) := H
                        have A20 := Aside0.mk A200
                        clear A200
                        obtain ⟨ji21, hji21⟩ : ∃ j_ : Int, (wrap64 ((ji17) + 1)) = j_ := ⟨_, rfl⟩
                        replace H : (if 0 ≤ (ji21) then (if (ji21) < (t101.length : Int) then ((dunnageref04_number.f (rd t101 (ji21))).bind fun bt112 => (if 0 ≤ (wrap64 ((ji17) + 2)) then (if (wrap64 ((ji17) + 2)) < (t101.length : Int) then ((dunnageref04_number.f (rd t101 (wrap64 ((ji17) + 2)))).bind fun bt115 => (if 0 ≤ (wrap64 ((ji17) + 3)) then (if (wrap64 ((ji17) + 3)) < (t101.length : Int) then ((dunnageref04_number.f (rd t101 (wrap64 ((ji17) + 3)))).bind fun bt118 => (if t110 = true then (if bt112.2 = true then (if bt115.2 = true then (if bt118.2 = true then (if x7_1.length < 4398046511104 then (dunnageref04_ReadMoves.l0 k1 t101 (x7_1 ++ [(⟨t109, bt112.1, bt115.1, bt118.1⟩ : S130)]) (wrap64 (x8_1 + 1))) else (none)) else (some (([] : List (S130)), 2, (-1)))) else (some (([] : List (S130)), 2, (-1)))) else (some (([] : List (S130)), 2, (-1)))) else (some (([] : List (S130)), 2, (-1))))) else (none)) else (none))) else (none)) else (none))) else (none)) else (none)) = some (r1, r2, r3) := by first | (rw [hji21] at H; exact H) | (simp only [hji21] at H ⊢; exact H)
                        (try rw [hji21] at A20)
                        have hji21w : (IntKind.i64.wrap ((ji17) + 1)) = ji21 := (i64_w _).trans hji21
                        by_cases c22 : 0 ≤ (ji21)
                        · rw [if_pos c22] at H
                          have c22b0 : decide (0 ≤ (ji21)) = true := decide_eq_true c22
                          clear c22
                          by_cases c23 : (ji21) < (t101.length : Int)
                          · rw [if_pos c23] at H
                            have c23b0 : decide ((ji21) < (t101.length : Int)) = true := decide_eq_true c23
                            clear c23
                            replace H := Option.bind_eq_some_iff.mp H
                            obtain ⟨⟨t112, t113⟩, A240, H⟩ := H
                            replace H : (if 0 ≤ (wrap64 ((ji17) + 2)) then (if (wrap64 ((ji17) + 2)) < (t101.length : Int) then ((dunnageref04_number.f (rd t101 (wrap64 ((ji17) + 2)))).bind fun bt115 => (if 0 ≤ (wrap64 ((ji17) + 3)) then (if (wrap64 ((ji17) + 3)) < (t101.length : Int) then ((dunnageref04_number.f (rd t101 (wrap64 ((ji17) + 3)))).bind fun bt118 => (if t110 = true then (if t113 = true then (if bt115.2 = true then (if bt118.2 = true then (if x7_1.length < 4398046511104 then (dunnageref04_ReadMoves.l0 k1 t101 (x7_1 ++ [(⟨t109, t112, bt115.1, bt118.1⟩ : S130)]) (wrap64 (x8_1 + 1))) else (none)) else (some (([] : List (S130)), 2, (-1)))) else (some (([] : List (S130)), 2, (-1)))) else (some (([] : List (S130)), 2, (-1)))) else (some (([] : List (S130)), 2, (-1))))) else (none)) else (none))) else (none)) else (none)) = some (r1, r2, r3) := H
                            have A24 := Aside0.mk A240
                            clear A240
                            obtain ⟨ji25, hji25⟩ : ∃ j_ : Int, (wrap64 ((ji17) + 2)) = j_ := ⟨_, rfl⟩
                            replace H : (if 0 ≤ (ji25) then (if (ji25) < (t101.length : Int) then ((dunnageref04_number.f (rd t101 (ji25))).bind fun bt115 => (if 0 ≤ (wrap64 ((ji17) + 3)) then (if (wrap64 ((ji17) + 3)) < (t101.length : Int) then ((dunnageref04_number.f (rd t101 (wrap64 ((ji17) + 3)))).bind fun bt118 => (if t110 = true then (if t113 = true then (if bt115.2 = true then (if bt118.2 = true then (if x7_1.length < 4398046511104 then (dunnageref04_ReadMoves.l0 k1 t101 (x7_1 ++ [(⟨t109, t112, bt115.1, bt118.1⟩ : S130)]) (wrap64 (x8_1 + 1))) else (none)) else (some (([] : List (S130)), 2, (-1)))) else (some (([] : List (S130)), 2, (-1)))) else (some (([] : List (S130)), 2, (-1)))) else (some (([] : List (S130)), 2, (-1))))) else (none)) else (none))) else (none)) else (none)) = some (r1, r2, r3) := by first | (rw [hji25] at H; exact H) | (simp only [hji25] at H ⊢; exact H)
                            (try rw [hji25] at A20)
                            (try rw [hji25] at A24)
                            have hji25w : (IntKind.i64.wrap ((ji17) + 2)) = ji25 := (i64_w _).trans hji25
                            by_cases c26 : 0 ≤ (ji25)
                            · rw [if_pos c26] at H
                              have c26b0 : decide (0 ≤ (ji25)) = true := decide_eq_true c26
                              clear c26
                              by_cases c27 : (ji25) < (t101.length : Int)
                              · rw [if_pos c27] at H
                                have c27b0 : decide ((ji25) < (t101.length : Int)) = true := decide_eq_true c27
                                clear c27
                                replace H := Option.bind_eq_some_iff.mp H
                                obtain ⟨⟨t115, t116⟩, A280, H⟩ := H
                                replace H : (if 0 ≤ (wrap64 ((ji17) + 3)) then (if (wrap64 ((ji17) + 3)) < (t101.length : Int) then ((dunnageref04_number.f (rd t101 (wrap64 ((ji17) + 3)))).bind fun bt118 => (if t110 = true then (if t113 = true then (if t116 = true then (if bt118.2 = true then (if x7_1.length < 4398046511104 then (dunnageref04_ReadMoves.l0 k1 t101 (x7_1 ++ [(⟨t109, t112, t115, bt118.1⟩ : S130)]) (wrap64 (x8_1 + 1))) else (none)) else (some (([] : List (S130)), 2, (-1)))) else (some (([] : List (S130)), 2, (-1)))) else (some (([] : List (S130)), 2, (-1)))) else (some (([] : List (S130)), 2, (-1))))) else (none)) else (none)) = some (r1, r2, r3) := H
                                have A28 := Aside0.mk A280
                                clear A280
                                obtain ⟨ji29, hji29⟩ : ∃ j_ : Int, (wrap64 ((ji17) + 3)) = j_ := ⟨_, rfl⟩
                                replace H : (if 0 ≤ (ji29) then (if (ji29) < (t101.length : Int) then ((dunnageref04_number.f (rd t101 (ji29))).bind fun bt118 => (if t110 = true then (if t113 = true then (if t116 = true then (if bt118.2 = true then (if x7_1.length < 4398046511104 then (dunnageref04_ReadMoves.l0 k1 t101 (x7_1 ++ [(⟨t109, t112, t115, bt118.1⟩ : S130)]) (wrap64 (x8_1 + 1))) else (none)) else (some (([] : List (S130)), 2, (-1)))) else (some (([] : List (S130)), 2, (-1)))) else (some (([] : List (S130)), 2, (-1)))) else (some (([] : List (S130)), 2, (-1))))) else (none)) else (none)) = some (r1, r2, r3) := by first | (rw [hji29] at H; exact H) | (simp only [hji29] at H ⊢; exact H)
                                (try rw [hji29] at A20)
                                (try rw [hji29] at A24)
                                (try rw [hji29] at A28)
                                have hji29w : (IntKind.i64.wrap ((ji17) + 3)) = ji29 := (i64_w _).trans hji29
                                by_cases c30 : 0 ≤ (ji29)
                                · rw [if_pos c30] at H
                                  have c30b0 : decide (0 ≤ (ji29)) = true := decide_eq_true c30
                                  clear c30
                                  by_cases c31 : (ji29) < (t101.length : Int)
                                  · rw [if_pos c31] at H
                                    have c31b0 : decide ((ji29) < (t101.length : Int)) = true := decide_eq_true c31
                                    clear c31
                                    replace H := Option.bind_eq_some_iff.mp H
                                    obtain ⟨⟨t118, t119⟩, A320, H⟩ := H
                                    replace H : (if t110 = true then (if t113 = true then (if t116 = true then (if t119 = true then (if x7_1.length < 4398046511104 then (dunnageref04_ReadMoves.l0 k1 t101 (x7_1 ++ [(⟨t109, t112, t115, t118⟩ : S130)]) (wrap64 (x8_1 + 1))) else (none)) else (some (([] : List (S130)), 2, (-1)))) else (some (([] : List (S130)), 2, (-1)))) else (some (([] : List (S130)), 2, (-1)))) else (some (([] : List (S130)), 2, (-1)))) = some (r1, r2, r3) := H
                                    have A32 := Aside0.mk A320
                                    clear A320
                                    by_cases c33 : t110 = true
                                    · subst c33
                                      have H1 : (if t113 = true then (if t116 = true then (if t119 = true then (if x7_1.length < 4398046511104 then (dunnageref04_ReadMoves.l0 k1 t101 (x7_1 ++ [(⟨t109, t112, t115, t118⟩ : S130)]) (wrap64 (x8_1 + 1))) else (none)) else (some (([] : List (S130)), 2, (-1)))) else (some (([] : List (S130)), 2, (-1)))) else (some (([] : List (S130)), 2, (-1)))) = some (r1, r2, r3) := by rw [if_pos rfl] at H; exact H
                                      clear H
                                      have H := H1
                                      clear H1
                                      by_cases c34 : t113 = true
                                      · subst c34
                                        have H1 : (if t116 = true then (if t119 = true then (if x7_1.length < 4398046511104 then (dunnageref04_ReadMoves.l0 k1 t101 (x7_1 ++ [(⟨t109, t112, t115, t118⟩ : S130)]) (wrap64 (x8_1 + 1))) else (none)) else (some (([] : List (S130)), 2, (-1)))) else (some (([] : List (S130)), 2, (-1)))) = some (r1, r2, r3) := by rw [if_pos rfl] at H; exact H
                                        clear H
                                        have H := H1
                                        clear H1
                                        by_cases c35 : t116 = true
                                        · subst c35
                                          have H1 : (if t119 = true then (if x7_1.length < 4398046511104 then (dunnageref04_ReadMoves.l0 k1 t101 (x7_1 ++ [(⟨t109, t112, t115, t118⟩ : S130)]) (wrap64 (x8_1 + 1))) else (none)) else (some (([] : List (S130)), 2, (-1)))) = some (r1, r2, r3) := by rw [if_pos rfl] at H; exact H
                                          clear H
                                          have H := H1
                                          clear H1
                                          by_cases c36 : t119 = true
                                          · subst c36
                                            have H1 : (if x7_1.length < 4398046511104 then (dunnageref04_ReadMoves.l0 k1 t101 (x7_1 ++ [(⟨t109, t112, t115, t118⟩ : S130)]) (wrap64 (x8_1 + 1))) else (none)) = some (r1, r2, r3) := by rw [if_pos rfl] at H; exact H
                                            clear H
                                            have H := H1
                                            clear H1
                                            by_cases c37 : x7_1.length < 4398046511104
                                            · rw [if_pos c37] at H
                                              have LMc37 := Aside0.mk c37
                                              clear c37
                                              obtain ⟨y120, hy120⟩ : ∃ y_ : List (S130), y_ = (x7_1 ++ [(⟨t109, t112, t115, t118⟩ : S130)]) := ⟨_, rfl⟩
                                              replace H : (dunnageref04_ReadMoves.l0 k1 t101 y120 (wrap64 (x8_1 + 1))) = some (r1, r2, r3) := by first | (rw [hy120]; with_reducible exact H) | (have H2_ := (Option.bind_some _ _).symm.trans H; rw [hy120]; with_reducible exact H2_) | (have H2_ := (Option.bind_some _ _).symm.trans H; with_reducible exact H2_) | with_reducible exact H | (rw [hy120]; exact H) | exact H
                                              have Ny120 := Aside0.mk hy120
                                              clear hy120
                                              have H' := Aside0.mk H
                                              clear H
                                              have p107 : 0 ≤ (0 : Int) := (by omega)
                                              have q107 : 0 < (t101.length : Int) := of_decide_eq_true F1_
                                              obtain ⟨ad107, e107, hx107_0⟩ := Kd.at_int (Kd.R_reads' HO_5.out).2.2 0 p107 q107
                                              obtain rfl : ad105 = ad107 := (by injection e107)
                                              have qi107 : (0 < t101.length) = True := eq_true (by omega)
                                              (try rw [show ((0 : Int)).toNat = 0 from rfl] at hx107_0)
                                              (try rw [Addr.add_zero'] at hx107_0)
                                              replace p107 := eq_true p107
                                              replace q107 := eq_true q107
                                              have p108 : 0 ≤ ((ji17) : Int) := of_decide_eq_true F1_
                                              have q108 : (ji17) < (t101.length : Int) := of_decide_eq_true F1_
                                              obtain ⟨ad108, e108, hx108_0⟩ := Kd.at_int (Kd.R_reads' HO_5.out).2.2 (ji17) p108 q108
                                              obtain rfl : ad105 = ad108 := (by injection e108)
                                              replace p108 := eq_true p108
                                              replace q108 := eq_true q108
                                              go_wp2_with (first | ((with_reducible refine gate_callee (f := 156) rfl ?_); refine goesL_ (some 58) rfl rfl Try.func156 (by kernel_rfl) rfl #[.int .u64 (rd t101 (ji17))] rfl F5_ ?_; (with_reducible refine (dunnageref04_number.calls (rd t101 (ji17)) t109 true _ A20.out).mono ?_); rintro e w' ⟨rfl, ⟨nd, rfl⟩⟩; refine ⟨_, rfl, ?_⟩; have p111 : 0 ≤ ((ji21) : Int) := of_decide_eq_true F1_; have q111 : (ji21) < (t101.length : Int) := of_decide_eq_true F1_; obtain ⟨ad111, e111, hx111_0⟩ := Kd.at_int (Kd.R_reads' HO_5.out).2.2 (ji21) p111 q111; obtain rfl : ad105 = ad111 := (by injection e111); replace p111 := eq_true p111; replace q111 := eq_true q111) | ((with_reducible refine gate_callee (f := 156) rfl ?_); refine goesL_ (some 67) rfl rfl Try.func156 (by kernel_rfl) rfl #[.int .u64 (rd t101 (ji21))] rfl F6_ ?_; (with_reducible refine (dunnageref04_number.calls (rd t101 (ji21)) t112 true _ A24.out).mono ?_); rintro e w' ⟨rfl, ⟨nd, rfl⟩⟩; refine ⟨_, rfl, ?_⟩; have p114 : 0 ≤ ((ji25) : Int) := of_decide_eq_true F1_; have q114 : (ji25) < (t101.length : Int) := of_decide_eq_true F1_; obtain ⟨ad114, e114, hx114_0⟩ := Kd.at_int (Kd.R_reads' HO_5.out).2.2 (ji25) p114 q114; obtain rfl : ad105 = ad114 := (by injection e114); replace p114 := eq_true p114; replace q114 := eq_true q114) | ((with_reducible refine gate_callee (f := 156) rfl ?_); refine goesL_ (some 76) rfl rfl Try.func156 (by kernel_rfl) rfl #[.int .u64 (rd t101 (ji25))] rfl F7_ ?_; (with_reducible refine (dunnageref04_number.calls (rd t101 (ji25)) t115 true _ A28.out).mono ?_); rintro e w' ⟨rfl, ⟨nd, rfl⟩⟩; refine ⟨_, rfl, ?_⟩; have p117 : 0 ≤ ((ji29) : Int) := of_decide_eq_true F1_; have q117 : (ji29) < (t101.length : Int) := of_decide_eq_true F1_; obtain ⟨ad117, e117, hx117_0⟩ := Kd.at_int (Kd.R_reads' HO_5.out).2.2 (ji29) p117 q117; obtain rfl : ad105 = ad117 := (by injection e117); replace p117 := eq_true p117; replace q117 := eq_true q117) | ((with_reducible refine gate_callee (f := 156) rfl ?_); refine goesL_ (some 85) rfl rfl Try.func156 (by kernel_rfl) rfl #[.int .u64 (rd t101 (ji29))] rfl F8_ ?_; (with_reducible refine (dunnageref04_number.calls (rd t101 (ji29)) t118 true _ A32.out).mono ?_); rintro e w' ⟨rfl, ⟨nd, rfl⟩⟩; refine ⟨_, rfl, ?_⟩) | ((with_reducible refine gate_builtin (b := .append) (xs := #[.tmp 102, .tmp 108]) rfl ?_); at_builtin; refine Kd.R_append k130 (w0 := w) w.heap.size rfl (.tmp 102) (.tmp 108) 58 130 (.agg #[(.int .i64 0), (.int .i64 0), (.int .i64 0), (.int .i64 0)]) 32 rfl Try.underlying58 info130 rfl (by decide) (by omega) u7 x7_1 (⟨t109, t112, t115, t118⟩ : S130) [.int .i64 t109, .int .i64 t112, .int .i64 t115, .int .i64 t118] (fun _ => True) (fun _ => False) rfl rfl ?aP (fun _ hk => hk.elim) ?aF ?aO ?aB ?aS ?aL ?_; (case aP => exact k130_mkM _ _ _ (⟨t109, t112, t115, t118⟩ : S130)); (case aB => exact F2_); (case aF => exact (fun _ _ => trivial)); (case aO => exact (by (with_reducible repeat (first | apply Kd.R_alloc | apply Kd.R_drewN | apply Kd.R_drew)); exact HO_7.out)); (case aS => exact (below_size F2_)); (case aL => have := LMc37.out; omega); intro v121 w38 ho hb hg hat; rw [← Ny120.out] at ho; have n0_ := Aside0.mk (Kd.R_over' (by (with_reducible repeat (first | apply Kd.R_alloc | apply Kd.R_drewN | apply Kd.R_drew)); exact HO_5.out) (Kd.R_typed (by (with_reducible repeat (first | apply Kd.R_alloc | apply Kd.R_drewN | apply Kd.R_drew)); exact HO_7.out)) (by decide) hg); have n1_ := Aside0.mk (hb); have n2_ := Aside0.mk (ho); clear HO_5; clear HB; clear HO_7; have HO_5 := n0_; have HB := n1_; have HO122 := n2_; clear n0_ n1_ n2_; clear ho hb hg hat))
                                              go_roundg k1
                                              case measure => have := HK1.out; omega
                                              case rel => exact ⟨(y120), (wrap64 (x8_1 + 1)), (by first | rfl | (simp; done) | (simp [*]; done)), H', ⟨by have := HK1.out; omega⟩, ⟨by (with_reducible repeat (first | apply Kd.R_alloc | apply Kd.R_drewN | apply Kd.R_drew)); exact HO_5.out⟩, ⟨by (with_reducible repeat (first | apply Kd.R_alloc | apply Kd.R_drewN | apply Kd.R_drew)); exact HO122.out⟩, ⟨F3_⟩⟩
                                            · rw [if_neg c37] at H
                                              exact absurd H (by simp)
                                          · replace c36 := Bool.eq_false_iff.mpr c36
                                            subst c36
                                            have H1 : (some (([] : List (S130)), 2, (-1))) = some (r1, r2, r3) := by rw [if_neg (show ¬ (false = true) by decide)] at H; exact H
                                            clear H
                                            have H := H1
                                            clear H1
                                            simp only [Option.some.injEq, Prod.mk.injEq] at H
                                            obtain ⟨rfl, rfl, rfl⟩ := H
                                            have p107 : 0 ≤ (0 : Int) := (by omega)
                                            have q107 : 0 < (t101.length : Int) := of_decide_eq_true F1_
                                            obtain ⟨ad107, e107, hx107_0⟩ := Kd.at_int (Kd.R_reads' HO_5.out).2.2 0 p107 q107
                                            obtain rfl : ad105 = ad107 := (by injection e107)
                                            have qi107 : (0 < t101.length) = True := eq_true (by omega)
                                            (try rw [show ((0 : Int)).toNat = 0 from rfl] at hx107_0)
                                            (try rw [Addr.add_zero'] at hx107_0)
                                            replace p107 := eq_true p107
                                            replace q107 := eq_true q107
                                            have p108 : 0 ≤ ((ji17) : Int) := of_decide_eq_true F1_
                                            have q108 : (ji17) < (t101.length : Int) := of_decide_eq_true F1_
                                            obtain ⟨ad108, e108, hx108_0⟩ := Kd.at_int (Kd.R_reads' HO_5.out).2.2 (ji17) p108 q108
                                            obtain rfl : ad105 = ad108 := (by injection e108)
                                            replace p108 := eq_true p108
                                            replace q108 := eq_true q108
                                            go_wp2_with (first | ((with_reducible refine gate_callee (f := 156) rfl ?_); refine goesL_ (some 58) rfl rfl Try.func156 (by kernel_rfl) rfl #[.int .u64 (rd t101 (ji17))] rfl F5_ ?_; (with_reducible refine (dunnageref04_number.calls (rd t101 (ji17)) t109 true _ A20.out).mono ?_); rintro e w' ⟨rfl, ⟨nd, rfl⟩⟩; refine ⟨_, rfl, ?_⟩; have p111 : 0 ≤ ((ji21) : Int) := of_decide_eq_true F1_; have q111 : (ji21) < (t101.length : Int) := of_decide_eq_true F1_; obtain ⟨ad111, e111, hx111_0⟩ := Kd.at_int (Kd.R_reads' HO_5.out).2.2 (ji21) p111 q111; obtain rfl : ad105 = ad111 := (by injection e111); replace p111 := eq_true p111; replace q111 := eq_true q111) | ((with_reducible refine gate_callee (f := 156) rfl ?_); refine goesL_ (some 67) rfl rfl Try.func156 (by kernel_rfl) rfl #[.int .u64 (rd t101 (ji21))] rfl F6_ ?_; (with_reducible refine (dunnageref04_number.calls (rd t101 (ji21)) t112 true _ A24.out).mono ?_); rintro e w' ⟨rfl, ⟨nd, rfl⟩⟩; refine ⟨_, rfl, ?_⟩; have p114 : 0 ≤ ((ji25) : Int) := of_decide_eq_true F1_; have q114 : (ji25) < (t101.length : Int) := of_decide_eq_true F1_; obtain ⟨ad114, e114, hx114_0⟩ := Kd.at_int (Kd.R_reads' HO_5.out).2.2 (ji25) p114 q114; obtain rfl : ad105 = ad114 := (by injection e114); replace p114 := eq_true p114; replace q114 := eq_true q114) | ((with_reducible refine gate_callee (f := 156) rfl ?_); refine goesL_ (some 76) rfl rfl Try.func156 (by kernel_rfl) rfl #[.int .u64 (rd t101 (ji25))] rfl F7_ ?_; (with_reducible refine (dunnageref04_number.calls (rd t101 (ji25)) t115 true _ A28.out).mono ?_); rintro e w' ⟨rfl, ⟨nd, rfl⟩⟩; refine ⟨_, rfl, ?_⟩; have p117 : 0 ≤ ((ji29) : Int) := of_decide_eq_true F1_; have q117 : (ji29) < (t101.length : Int) := of_decide_eq_true F1_; obtain ⟨ad117, e117, hx117_0⟩ := Kd.at_int (Kd.R_reads' HO_5.out).2.2 (ji29) p117 q117; obtain rfl : ad105 = ad117 := (by injection e117); replace p117 := eq_true p117; replace q117 := eq_true q117) | ((with_reducible refine gate_callee (f := 156) rfl ?_); refine goesL_ (some 85) rfl rfl Try.func156 (by kernel_rfl) rfl #[.int .u64 (rd t101 (ji29))] rfl F8_ ?_; (with_reducible refine (dunnageref04_number.calls (rd t101 (ji29)) t118 false _ A32.out).mono ?_); rintro e w' ⟨rfl, ⟨nd, rfl⟩⟩; refine ⟨_, rfl, ?_⟩))
                                            go_ret3
                                            exact ⟨_, F10_, F4_, F3_⟩
                                        · replace c35 := Bool.eq_false_iff.mpr c35
                                          subst c35
                                          have H1 : (some (([] : List (S130)), 2, (-1))) = some (r1, r2, r3) := by rw [if_neg (show ¬ (false = true) by decide)] at H; exact H
                                          clear H
                                          have H := H1
                                          clear H1
                                          simp only [Option.some.injEq, Prod.mk.injEq] at H
                                          obtain ⟨rfl, rfl, rfl⟩ := H
                                          have p107 : 0 ≤ (0 : Int) := (by omega)
                                          have q107 : 0 < (t101.length : Int) := of_decide_eq_true F1_
                                          obtain ⟨ad107, e107, hx107_0⟩ := Kd.at_int (Kd.R_reads' HO_5.out).2.2 0 p107 q107
                                          obtain rfl : ad105 = ad107 := (by injection e107)
                                          have qi107 : (0 < t101.length) = True := eq_true (by omega)
                                          (try rw [show ((0 : Int)).toNat = 0 from rfl] at hx107_0)
                                          (try rw [Addr.add_zero'] at hx107_0)
                                          replace p107 := eq_true p107
                                          replace q107 := eq_true q107
                                          have p108 : 0 ≤ ((ji17) : Int) := of_decide_eq_true F1_
                                          have q108 : (ji17) < (t101.length : Int) := of_decide_eq_true F1_
                                          obtain ⟨ad108, e108, hx108_0⟩ := Kd.at_int (Kd.R_reads' HO_5.out).2.2 (ji17) p108 q108
                                          obtain rfl : ad105 = ad108 := (by injection e108)
                                          replace p108 := eq_true p108
                                          replace q108 := eq_true q108
                                          go_wp2_with (first | ((with_reducible refine gate_callee (f := 156) rfl ?_); refine goesL_ (some 58) rfl rfl Try.func156 (by kernel_rfl) rfl #[.int .u64 (rd t101 (ji17))] rfl F5_ ?_; (with_reducible refine (dunnageref04_number.calls (rd t101 (ji17)) t109 true _ A20.out).mono ?_); rintro e w' ⟨rfl, ⟨nd, rfl⟩⟩; refine ⟨_, rfl, ?_⟩; have p111 : 0 ≤ ((ji21) : Int) := of_decide_eq_true F1_; have q111 : (ji21) < (t101.length : Int) := of_decide_eq_true F1_; obtain ⟨ad111, e111, hx111_0⟩ := Kd.at_int (Kd.R_reads' HO_5.out).2.2 (ji21) p111 q111; obtain rfl : ad105 = ad111 := (by injection e111); replace p111 := eq_true p111; replace q111 := eq_true q111) | ((with_reducible refine gate_callee (f := 156) rfl ?_); refine goesL_ (some 67) rfl rfl Try.func156 (by kernel_rfl) rfl #[.int .u64 (rd t101 (ji21))] rfl F6_ ?_; (with_reducible refine (dunnageref04_number.calls (rd t101 (ji21)) t112 true _ A24.out).mono ?_); rintro e w' ⟨rfl, ⟨nd, rfl⟩⟩; refine ⟨_, rfl, ?_⟩; have p114 : 0 ≤ ((ji25) : Int) := of_decide_eq_true F1_; have q114 : (ji25) < (t101.length : Int) := of_decide_eq_true F1_; obtain ⟨ad114, e114, hx114_0⟩ := Kd.at_int (Kd.R_reads' HO_5.out).2.2 (ji25) p114 q114; obtain rfl : ad105 = ad114 := (by injection e114); replace p114 := eq_true p114; replace q114 := eq_true q114) | ((with_reducible refine gate_callee (f := 156) rfl ?_); refine goesL_ (some 76) rfl rfl Try.func156 (by kernel_rfl) rfl #[.int .u64 (rd t101 (ji25))] rfl F7_ ?_; (with_reducible refine (dunnageref04_number.calls (rd t101 (ji25)) t115 false _ A28.out).mono ?_); rintro e w' ⟨rfl, ⟨nd, rfl⟩⟩; refine ⟨_, rfl, ?_⟩; have p117 : 0 ≤ ((ji29) : Int) := of_decide_eq_true F1_; have q117 : (ji29) < (t101.length : Int) := of_decide_eq_true F1_; obtain ⟨ad117, e117, hx117_0⟩ := Kd.at_int (Kd.R_reads' HO_5.out).2.2 (ji29) p117 q117; obtain rfl : ad105 = ad117 := (by injection e117); replace p117 := eq_true p117; replace q117 := eq_true q117) | ((with_reducible refine gate_callee (f := 156) rfl ?_); refine goesL_ (some 85) rfl rfl Try.func156 (by kernel_rfl) rfl #[.int .u64 (rd t101 (ji29))] rfl F8_ ?_; (with_reducible refine (dunnageref04_number.calls (rd t101 (ji29)) t118 t119 _ A32.out).mono ?_); rintro e w' ⟨rfl, ⟨nd, rfl⟩⟩; refine ⟨_, rfl, ?_⟩))
                                          go_ret3
                                          exact ⟨_, F10_, F4_, F3_⟩
                                      · replace c34 := Bool.eq_false_iff.mpr c34
                                        subst c34
                                        have H1 : (some (([] : List (S130)), 2, (-1))) = some (r1, r2, r3) := by rw [if_neg (show ¬ (false = true) by decide)] at H; exact H
                                        clear H
                                        have H := H1
                                        clear H1
                                        simp only [Option.some.injEq, Prod.mk.injEq] at H
                                        obtain ⟨rfl, rfl, rfl⟩ := H
                                        have p107 : 0 ≤ (0 : Int) := (by omega)
                                        have q107 : 0 < (t101.length : Int) := of_decide_eq_true F1_
                                        obtain ⟨ad107, e107, hx107_0⟩ := Kd.at_int (Kd.R_reads' HO_5.out).2.2 0 p107 q107
                                        obtain rfl : ad105 = ad107 := (by injection e107)
                                        have qi107 : (0 < t101.length) = True := eq_true (by omega)
                                        (try rw [show ((0 : Int)).toNat = 0 from rfl] at hx107_0)
                                        (try rw [Addr.add_zero'] at hx107_0)
                                        replace p107 := eq_true p107
                                        replace q107 := eq_true q107
                                        have p108 : 0 ≤ ((ji17) : Int) := of_decide_eq_true F1_
                                        have q108 : (ji17) < (t101.length : Int) := of_decide_eq_true F1_
                                        obtain ⟨ad108, e108, hx108_0⟩ := Kd.at_int (Kd.R_reads' HO_5.out).2.2 (ji17) p108 q108
                                        obtain rfl : ad105 = ad108 := (by injection e108)
                                        replace p108 := eq_true p108
                                        replace q108 := eq_true q108
                                        go_wp2_with (first | ((with_reducible refine gate_callee (f := 156) rfl ?_); refine goesL_ (some 58) rfl rfl Try.func156 (by kernel_rfl) rfl #[.int .u64 (rd t101 (ji17))] rfl F5_ ?_; (with_reducible refine (dunnageref04_number.calls (rd t101 (ji17)) t109 true _ A20.out).mono ?_); rintro e w' ⟨rfl, ⟨nd, rfl⟩⟩; refine ⟨_, rfl, ?_⟩; have p111 : 0 ≤ ((ji21) : Int) := of_decide_eq_true F1_; have q111 : (ji21) < (t101.length : Int) := of_decide_eq_true F1_; obtain ⟨ad111, e111, hx111_0⟩ := Kd.at_int (Kd.R_reads' HO_5.out).2.2 (ji21) p111 q111; obtain rfl : ad105 = ad111 := (by injection e111); replace p111 := eq_true p111; replace q111 := eq_true q111) | ((with_reducible refine gate_callee (f := 156) rfl ?_); refine goesL_ (some 67) rfl rfl Try.func156 (by kernel_rfl) rfl #[.int .u64 (rd t101 (ji21))] rfl F6_ ?_; (with_reducible refine (dunnageref04_number.calls (rd t101 (ji21)) t112 false _ A24.out).mono ?_); rintro e w' ⟨rfl, ⟨nd, rfl⟩⟩; refine ⟨_, rfl, ?_⟩; have p114 : 0 ≤ ((ji25) : Int) := of_decide_eq_true F1_; have q114 : (ji25) < (t101.length : Int) := of_decide_eq_true F1_; obtain ⟨ad114, e114, hx114_0⟩ := Kd.at_int (Kd.R_reads' HO_5.out).2.2 (ji25) p114 q114; obtain rfl : ad105 = ad114 := (by injection e114); replace p114 := eq_true p114; replace q114 := eq_true q114) | ((with_reducible refine gate_callee (f := 156) rfl ?_); refine goesL_ (some 76) rfl rfl Try.func156 (by kernel_rfl) rfl #[.int .u64 (rd t101 (ji25))] rfl F7_ ?_; (with_reducible refine (dunnageref04_number.calls (rd t101 (ji25)) t115 t116 _ A28.out).mono ?_); rintro e w' ⟨rfl, ⟨nd, rfl⟩⟩; refine ⟨_, rfl, ?_⟩; have p117 : 0 ≤ ((ji29) : Int) := of_decide_eq_true F1_; have q117 : (ji29) < (t101.length : Int) := of_decide_eq_true F1_; obtain ⟨ad117, e117, hx117_0⟩ := Kd.at_int (Kd.R_reads' HO_5.out).2.2 (ji29) p117 q117; obtain rfl : ad105 = ad117 := (by injection e117); replace p117 := eq_true p117; replace q117 := eq_true q117) | ((with_reducible refine gate_callee (f := 156) rfl ?_); refine goesL_ (some 85) rfl rfl Try.func156 (by kernel_rfl) rfl #[.int .u64 (rd t101 (ji29))] rfl F8_ ?_; (with_reducible refine (dunnageref04_number.calls (rd t101 (ji29)) t118 t119 _ A32.out).mono ?_); rintro e w' ⟨rfl, ⟨nd, rfl⟩⟩; refine ⟨_, rfl, ?_⟩))
                                        go_ret3
                                        exact ⟨_, F10_, F4_, F3_⟩
                                    · replace c33 := Bool.eq_false_iff.mpr c33
                                      subst c33
                                      have H1 : (some (([] : List (S130)), 2, (-1))) = some (r1, r2, r3) := by rw [if_neg (show ¬ (false = true) by decide)] at H; exact H
                                      clear H
                                      have H := H1
                                      clear H1
                                      simp only [Option.some.injEq, Prod.mk.injEq] at H
                                      obtain ⟨rfl, rfl, rfl⟩ := H
                                      have p107 : 0 ≤ (0 : Int) := (by omega)
                                      have q107 : 0 < (t101.length : Int) := of_decide_eq_true F1_
                                      obtain ⟨ad107, e107, hx107_0⟩ := Kd.at_int (Kd.R_reads' HO_5.out).2.2 0 p107 q107
                                      obtain rfl : ad105 = ad107 := (by injection e107)
                                      have qi107 : (0 < t101.length) = True := eq_true (by omega)
                                      (try rw [show ((0 : Int)).toNat = 0 from rfl] at hx107_0)
                                      (try rw [Addr.add_zero'] at hx107_0)
                                      replace p107 := eq_true p107
                                      replace q107 := eq_true q107
                                      have p108 : 0 ≤ ((ji17) : Int) := of_decide_eq_true F1_
                                      have q108 : (ji17) < (t101.length : Int) := of_decide_eq_true F1_
                                      obtain ⟨ad108, e108, hx108_0⟩ := Kd.at_int (Kd.R_reads' HO_5.out).2.2 (ji17) p108 q108
                                      obtain rfl : ad105 = ad108 := (by injection e108)
                                      replace p108 := eq_true p108
                                      replace q108 := eq_true q108
                                      go_wp2_with (first | ((with_reducible refine gate_callee (f := 156) rfl ?_); refine goesL_ (some 58) rfl rfl Try.func156 (by kernel_rfl) rfl #[.int .u64 (rd t101 (ji17))] rfl F5_ ?_; (with_reducible refine (dunnageref04_number.calls (rd t101 (ji17)) t109 false _ A20.out).mono ?_); rintro e w' ⟨rfl, ⟨nd, rfl⟩⟩; refine ⟨_, rfl, ?_⟩; have p111 : 0 ≤ ((ji21) : Int) := of_decide_eq_true F1_; have q111 : (ji21) < (t101.length : Int) := of_decide_eq_true F1_; obtain ⟨ad111, e111, hx111_0⟩ := Kd.at_int (Kd.R_reads' HO_5.out).2.2 (ji21) p111 q111; obtain rfl : ad105 = ad111 := (by injection e111); replace p111 := eq_true p111; replace q111 := eq_true q111) | ((with_reducible refine gate_callee (f := 156) rfl ?_); refine goesL_ (some 67) rfl rfl Try.func156 (by kernel_rfl) rfl #[.int .u64 (rd t101 (ji21))] rfl F6_ ?_; (with_reducible refine (dunnageref04_number.calls (rd t101 (ji21)) t112 t113 _ A24.out).mono ?_); rintro e w' ⟨rfl, ⟨nd, rfl⟩⟩; refine ⟨_, rfl, ?_⟩; have p114 : 0 ≤ ((ji25) : Int) := of_decide_eq_true F1_; have q114 : (ji25) < (t101.length : Int) := of_decide_eq_true F1_; obtain ⟨ad114, e114, hx114_0⟩ := Kd.at_int (Kd.R_reads' HO_5.out).2.2 (ji25) p114 q114; obtain rfl : ad105 = ad114 := (by injection e114); replace p114 := eq_true p114; replace q114 := eq_true q114) | ((with_reducible refine gate_callee (f := 156) rfl ?_); refine goesL_ (some 76) rfl rfl Try.func156 (by kernel_rfl) rfl #[.int .u64 (rd t101 (ji25))] rfl F7_ ?_; (with_reducible refine (dunnageref04_number.calls (rd t101 (ji25)) t115 t116 _ A28.out).mono ?_); rintro e w' ⟨rfl, ⟨nd, rfl⟩⟩; refine ⟨_, rfl, ?_⟩; have p117 : 0 ≤ ((ji29) : Int) := of_decide_eq_true F1_; have q117 : (ji29) < (t101.length : Int) := of_decide_eq_true F1_; obtain ⟨ad117, e117, hx117_0⟩ := Kd.at_int (Kd.R_reads' HO_5.out).2.2 (ji29) p117 q117; obtain rfl : ad105 = ad117 := (by injection e117); replace p117 := eq_true p117; replace q117 := eq_true q117) | ((with_reducible refine gate_callee (f := 156) rfl ?_); refine goesL_ (some 85) rfl rfl Try.func156 (by kernel_rfl) rfl #[.int .u64 (rd t101 (ji29))] rfl F8_ ?_; (with_reducible refine (dunnageref04_number.calls (rd t101 (ji29)) t118 t119 _ A32.out).mono ?_); rintro e w' ⟨rfl, ⟨nd, rfl⟩⟩; refine ⟨_, rfl, ?_⟩))
                                      go_ret3
                                      exact ⟨_, F10_, F4_, F3_⟩
                                  · rw [if_neg c31] at H
                                    exact absurd H (by simp)
                                · rw [if_neg c30] at H
                                  exact absurd H (by simp)
                              · rw [if_neg c27] at H
                                exact absurd H (by simp)
                            · rw [if_neg c26] at H
                              exact absurd H (by simp)
                          · rw [if_neg c23] at H
                            exact absurd H (by simp)
                        · rw [if_neg c22] at H
                          exact absurd H (by simp)
                      · rw [if_neg c19] at H
                        exact absurd H (by simp)
                    · rw [if_neg c18] at H
                      exact absurd H (by simp)
                  · rw [if_neg c16] at H
                    have c16b0 : decide (x8_1 < (wrap64 (rd t101 0))) = false := decide_eq_false c16
                    clear c16
                    simp only [Option.some.injEq, Prod.mk.injEq] at H
                    obtain ⟨rfl, rfl, rfl⟩ := H
                    have p107 : 0 ≤ (0 : Int) := (by omega)
                    have q107 : 0 < (t101.length : Int) := of_decide_eq_true F1_
                    obtain ⟨ad107, e107, hx107_0⟩ := Kd.at_int (Kd.R_reads' HO_5.out).2.2 0 p107 q107
                    obtain rfl : ad105 = ad107 := (by injection e107)
                    have qi107 : (0 < t101.length) = True := eq_true (by omega)
                    (try rw [show ((0 : Int)).toNat = 0 from rfl] at hx107_0)
                    (try rw [Addr.add_zero'] at hx107_0)
                    replace p107 := eq_true p107
                    replace q107 := eq_true q107
                    go_wp2
                    go_ret3
                    exact ⟨_, F12_, by (with_reducible repeat (first | apply Kd.R_alloc | apply Kd.R_drewN | apply Kd.R_drew)); exact HO_7.out, F3_⟩
                · rw [if_neg c15] at H
                  exact absurd H (by simp)
          · rw [if_neg c12] at H
            have c12b0 : ((t101.length : Int) == (wrap64 (1 + (wrap64 (4 * (wrap64 (rd t101 0))))))) = false := beq_eq_false_iff_ne.mpr c12
            have c12b1 : ((t101.length : Int) != (wrap64 (1 + (wrap64 (4 * (wrap64 (rd t101 0))))))) = true := bne_iff_ne.mpr c12
            simp only [Option.some.injEq, Prod.mk.injEq] at H
            obtain ⟨rfl, rfl, rfl⟩ := H
            go_enter Try.func145, Try.ntmps145
            go_wp2_with (first | ((with_reducible refine gate_callee (f := 146) rfl ?_); refine goesL_ (some 20) rfl rfl Try.func146 (by kernel_rfl) rfl #[.slice A0 l0.length c0] rfl F11_ ?_; (with_reducible refine (dunnageref02_All.calls k _ _ l0 t101 t102 _ ?side1 ?side2 A2.out).mono ?_); (case side1 => exact F9_); (case side2 => exact HC0.out); rintro e w39 ⟨v103, rfl, ho0, hb⟩; refine ⟨_, rfl, ?_⟩; have n0_ := Aside0.mk (Kd.R_lower ho0 (below_size F2_)); have n1_ := Aside0.mk (below_step F2_ hb); clear HB; have HO104 := n0_; have HB := n1_; clear n0_ n1_; (try clear hb); (try clear hb2); (try clear hk); (try clear hi); (try clear ho0); obtain ⟨Ao40, co40, eo40⟩ := Kd.R_slice HO104.out; subst eo40; have p105 : 0 ≤ (0 : Int) := (by omega); have q105 : 0 < (t101.length : Int) := of_decide_eq_true F1_; obtain ⟨ad105, e105, hx105_0⟩ := Kd.at_int (Kd.R_reads' HO104.out).2.2 0 p105 q105; cases e105; have qi105 : (0 < t101.length) = True := eq_true (by omega); (try rw [show ((0 : Int)).toNat = 0 from rfl] at hx105_0); (try rw [Addr.add_zero'] at hx105_0); replace p105 := eq_true p105; replace q105 := eq_true q105; have p106 : 0 ≤ (0 : Int) := (by omega); have q106 : 0 < (t101.length : Int) := of_decide_eq_true F1_; obtain ⟨ad106, e106, hx106_0⟩ := Kd.at_int (Kd.R_reads' HO104.out).2.2 0 p106 q106; obtain rfl : ad105 = ad106 := (by injection e106); have qi106 : (0 < t101.length) = True := eq_true (by omega); (try rw [show ((0 : Int)).toNat = 0 from rfl] at hx106_0); (try rw [Addr.add_zero'] at hx106_0); replace p106 := eq_true p106; replace q106 := eq_true q106))
            go_ret3
            exact ⟨_, F12_, F4_, F3_⟩
      · rw [if_neg c8] at H
        exact absurd H (by simp)

end Go.Proofs.Ytppfkbigeknedaa.Q
