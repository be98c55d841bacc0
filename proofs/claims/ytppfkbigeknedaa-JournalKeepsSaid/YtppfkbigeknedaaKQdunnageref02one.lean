import Derived.Test.YtppfkbigeknedaaKQ0
import Derived.Test.YtppfkbigeknedaaKPP
namespace Go.Proofs.Ytppfkbigeknedaa.Q
open Go.RowKit Go.Proofs.YtppfkbigeknedaaW.PrintWords Go.Proofs.YtppfkbigeknedaaW.PrintLast Go.Proofs.YtppfkbigeknedaaW.PrintMore
attribute [local go_sem] max2_int min2_int max_two min_two max_three min_three max_four min_four   -- for this text's walks alone
set_option linter.unusedVariables false
set_option linter.unusedSimpArgs false

attribute [local go_sem] eqe_ii eqe_nn eqe_ni eqe_nni
namespace FoldQdunnageref02one
theorem F1_ {p : Prop} (h : p := by repeat (first | (with_reducible first | exact HB.out | apply below_alloc | apply pw_below_drewN | apply below_drew1) | exact HB.out)) : p := h
theorem F2_ {p : Prop} (h : p := by first | rfl | (simp; done) | (simp [*]; done)) : p := h
theorem F3_ {p : Prop} (h : p := by first | (with_reducible assumption) | assumption) : p := h
theorem F4_ {p : Prop} (h : p := by first | rfl | (simp [errW_none, errW_some] <;> rfl) | (simp [*, errW_none, errW_some] <;> rfl)) : p := h
end FoldQdunnageref02one
open FoldQdunnageref02one
/-! ### dunnageref02_one: function 144 -/
mutual
def dunnageref02_one.l0 : Nat → List Int → Int → Int → Int → Int → Option (Int × Int)
  | 0, _, _, _, _, _ => none
  | k + 1, x0, x1, x6, x7, x8 => if x8 < (x0.length : Int) then (dunnageref02_one.j1 k x0 x1 x6 x7 x8 (decide (x8 < (wrap64 (x1 + 10))))) else (dunnageref02_one.j1 k x0 x1 x6 x7 x8 false)
def dunnageref02_one.j1 : Nat → List Int → Int → Int → Int → Int → Bool → Option (Int × Int)
  | 0, _, _, _, _, _, _ => none
  | k + 1, x0, x1, x6, x7, x8, x20 => if x20 = true then (if 0 ≤ x8 then (if x8 < (x0.length : Int) then (if x8 = (wrap64 (x1 + 9)) then (dunnageref02_one.j2 k x0 x1 x6 x7 x8 (IntKind.u64.wrap (Int.tmod (rd x0 x8) 128)) (decide ((IntKind.u64.wrap (Int.tmod (rd x0 x8) 128)) > 1))) else (dunnageref02_one.j2 k x0 x1 x6 x7 x8 (IntKind.u64.wrap (Int.tmod (rd x0 x8) 128)) false)) else (none)) else (none)) else (some (0, (-1)))
def dunnageref02_one.j2 : Nat → List Int → Int → Int → Int → Int → Int → Bool → Option (Int × Int)
  | 0, _, _, _, _, _, _, _ => none
  | k + 1, x0, x1, x6, x7, x8, x9, x36 => if x36 = true then (some (0, (-1))) else (if 0 ≤ x8 then (if x8 < (x0.length : Int) then (if (rd x0 x8) < 128 then ((dunnageref02_put.f k (IntKind.u64.wrap (x6 + (IntKind.u64.wrap (x9 * x7))))).bind fun t103 => (if (t103.length : Int) = (wrap64 ((wrap64 (x8 + 1)) - x1)) then (some (IntKind.u64.wrap (x6 + (IntKind.u64.wrap (x9 * x7))), wrap64 (x8 + 1))) else (some (0, (-1))))) else (dunnageref02_one.l0 k x0 x1 (IntKind.u64.wrap (x6 + (IntKind.u64.wrap (x9 * x7)))) (IntKind.u64.wrap (x7 * 128)) (wrap64 (x8 + 1)))) else (none)) else (none))
end
def dunnageref02_one.f (k : Nat) (l0 : List Int) (a1 : Int) : Option (Int × Int) := dunnageref02_one.l0 k l0 a1 0 1 a1
theorem dunnageref02_one.mono_l : ∀ k, (∀ y0 y1 y2 y3 y4, LeO (dunnageref02_one.l0 k y0 y1 y2 y3 y4) (dunnageref02_one.l0 (k + 1) y0 y1 y2 y3 y4)) ∧ (∀ y0 y1 y2 y3 y4 y5, LeO (dunnageref02_one.j1 k y0 y1 y2 y3 y4 y5) (dunnageref02_one.j1 (k + 1) y0 y1 y2 y3 y4 y5)) ∧ (∀ y0 y1 y2 y3 y4 y5 y6, LeO (dunnageref02_one.j2 k y0 y1 y2 y3 y4 y5 y6) (dunnageref02_one.j2 (k + 1) y0 y1 y2 y3 y4 y5 y6))
  | 0 => ⟨fun _ _ _ _ _ r h => by simp [dunnageref02_one.l0] at h, fun _ _ _ _ _ _ r h => by simp [dunnageref02_one.j1] at h, fun _ _ _ _ _ _ _ r h => by simp [dunnageref02_one.j2] at h⟩
  | k + 1 => by
    obtain ⟨ih0, ih1, ih2⟩ := dunnageref02_one.mono_l k
    refine ⟨?_, ?_, ?_⟩
    · intro y0 y1 y2 y3 y4
      unfold dunnageref02_one.l0
      repeat' first
      | (with_reducible exact ih0 _ _ _ _ _)
      | (with_reducible exact ih1 _ _ _ _ _ _)
      | (with_reducible exact ih2 _ _ _ _ _ _ _)
      | (with_reducible exact dunnageref02_put.mono _ _)
      | (with_reducible exact LeO.refl _)
      | (with_reducible exact LeO.none _)
      | (with_reducible refine LeO.ite ?_ ?_)
      | (with_reducible refine LeO.bind ?_ (fun _ => ?_))
      | exact ih0 _ _ _ _ _
      | exact ih1 _ _ _ _ _ _
      | exact ih2 _ _ _ _ _ _ _
      | exact dunnageref02_put.mono _ _
      | exact LeO.none _
      | refine LeO.ite ?_ ?_
      | refine LeO.bind ?_ (fun _ => ?_)
    · intro y0 y1 y2 y3 y4 y5
      unfold dunnageref02_one.j1
      repeat' first
      | (with_reducible exact ih0 _ _ _ _ _)
      | (with_reducible exact ih1 _ _ _ _ _ _)
      | (with_reducible exact ih2 _ _ _ _ _ _ _)
      | (with_reducible exact dunnageref02_put.mono _ _)
      | (with_reducible exact LeO.refl _)
      | (with_reducible exact LeO.none _)
      | (with_reducible refine LeO.ite ?_ ?_)
      | (with_reducible refine LeO.bind ?_ (fun _ => ?_))
      | exact ih0 _ _ _ _ _
      | exact ih1 _ _ _ _ _ _
      | exact ih2 _ _ _ _ _ _ _
      | exact dunnageref02_put.mono _ _
      | exact LeO.none _
      | refine LeO.ite ?_ ?_
      | refine LeO.bind ?_ (fun _ => ?_)
    · intro y0 y1 y2 y3 y4 y5 y6
      unfold dunnageref02_one.j2
      repeat' first
      | (with_reducible exact ih0 _ _ _ _ _)
      | (with_reducible exact ih1 _ _ _ _ _ _)
      | (with_reducible exact ih2 _ _ _ _ _ _ _)
      | (with_reducible exact dunnageref02_put.mono _ _)
      | (with_reducible exact LeO.refl _)
      | (with_reducible exact LeO.none _)
      | (with_reducible refine LeO.ite ?_ ?_)
      | (with_reducible refine LeO.bind ?_ (fun _ => ?_))
      | exact ih0 _ _ _ _ _
      | exact ih1 _ _ _ _ _ _
      | exact ih2 _ _ _ _ _ _ _
      | exact dunnageref02_put.mono _ _
      | exact LeO.none _
      | refine LeO.ite ?_ ?_
      | refine LeO.bind ?_ (fun _ => ?_)
theorem dunnageref02_one.mono : ∀ a0 a1 k, LeO (dunnageref02_one.f k a0 a1) (dunnageref02_one.f (k + 1) a0 a1) := by
  intro a0 a1 k
  obtain ⟨ih0, ih1, ih2⟩ := dunnageref02_one.mono_l k
  unfold dunnageref02_one.f
  repeat' first
      | (with_reducible exact ih0 _ _ _ _ _)
      | (with_reducible exact ih1 _ _ _ _ _ _)
      | (with_reducible exact ih2 _ _ _ _ _ _ _)
      | (with_reducible exact dunnageref02_put.mono _ _)
      | (with_reducible exact LeO.refl _)
      | (with_reducible exact LeO.none _)
      | (with_reducible refine LeO.ite ?_ ?_)
      | (with_reducible refine LeO.bind ?_ (fun _ => ?_))
      | exact ih0 _ _ _ _ _
      | exact ih1 _ _ _ _ _ _
      | exact ih2 _ _ _ _ _ _ _
      | exact dunnageref02_put.mono _ _
      | exact LeO.none _
      | refine LeO.ite ?_ ?_
      | refine LeO.bind ?_ (fun _ => ?_)
set_option maxHeartbeats 8000000 in
set_option maxRecDepth 100000 in
theorem dunnageref02_one.calls (k : Nat) (A0 : Option Addr) (c0 : Nat) (l0 : List Int) (a1 : Int) (r1 : Int) (r2 : Int) (w : World) (hr0 : Kd.C (Kd.int .u8) w A0 l0.length l0) (hc0 : l0.length ≤ c0) (h : dunnageref02_one.f k l0 a1 = some (r1, r2)) :
    Calls Try.prog 144 #[.slice A0 l0.length c0, .int .i64 a1] w fun e w' => e = .returned (.tuple #[.int .u64 r1, .int .i64 r2]) ∧ Below w.heap.size w w' := by
  have HR0 := Aside0.mk hr0
  have HC0 := Aside0.mk hc0
  clear hr0 hc0
  have HB := Aside0.mk (Below.refl w.heap.size w)
  have H : (dunnageref02_one.l0 k l0 a1 0 1 a1) = some (r1, r2) := h
  clear h
  have H' := Aside0.mk H
  clear H
  go_enter Try.func144, Try.ntmps144
  go_wp2
  go_loopg [6, 7, 8] k (fun kq v6 v7 v8 w' => ∃ (x6_1 : Int) (x7_1 : Int) (x8_1 : Int), v6 = .int .u64 x6_1 ∧ v7 = .int .u64 x7_1 ∧ v8 = .int .i64 x8_1 ∧ Aside0 (dunnageref02_one.l0 kq l0 a1 x6_1 x7_1 x8_1 = some (r1, r2)) ∧ Aside0 (kq ≤ k) ∧ Aside0 (Below w.heap.size w w'))
  case atStart => exact ⟨(0), (1), (a1), F2_, F2_, F2_, H', ⟨Nat.le_refl _⟩, ⟨F1_⟩⟩
  case round =>
    clear H'
    try clear c1
    try clear p2
    obtain ⟨x6_1, x7_1, x8_1, rfl, rfl, rfl, HA, HK1, HB⟩ := hrel
    cases gk with
    | zero => exact absurd HA.out (by simp [dunnageref02_one.l0])
    | succ k1 =>
      have H := HA.out
      clear HA
      simp only [dunnageref02_one.l0] at H
      have HC3 := Aside0.mk H
      clear H
      go_upto_region 4 with (fail)
      go_cut [20] (fun v20 wc => ∃ (kq : Nat) (x20_2 : Bool), v20 = .bool x20_2 ∧ Aside0 (dunnageref02_one.j1 kq l0 a1 x6_1 x7_1 x8_1 x20_2 = some (r1, r2)) ∧ Aside0 (kq ≤ k1) ∧ Aside0 (Below w.heap.size w wc))
      case first =>
        have H := HC3.out
        clear HC3
        by_cases c4 : x8_1 < (l0.length : Int)
        · rw [if_pos c4] at H
          have c4b0 : decide (x8_1 < (l0.length : Int)) = true := decide_eq_true c4
          clear c4
          (first | rw [c4b0] | (simp only [i64_w, i32_w]; rw [c4b0]) | skip)
          have H' := Aside0.mk H
          clear H
          go_wp2
          go_meet
          case rel => exact ⟨_, (decide (x8_1 < (wrap64 (a1 + 10)))), F2_, H', ⟨by have := HK1.out; first | omega | exact Nat.le_refl _⟩, ⟨F1_⟩⟩
        · rw [if_neg c4] at H
          have c4b0 : decide (x8_1 < (l0.length : Int)) = false := decide_eq_false c4
          clear c4
          (first | rw [c4b0] | (simp only [i64_w, i32_w]; rw [c4b0]) | skip)
          have H' := Aside0.mk H
          clear H
          go_wp2
          go_meet
          case rel => exact ⟨_, (false), F2_, H', ⟨by have := HK1.out; first | omega | exact Nat.le_refl _⟩, ⟨F1_⟩⟩
      case rest =>
        clear HC3
        try clear c1
        try clear p2
        try clear c4
        try clear c4b0
        try clear p2
        obtain ⟨kq, x20_2, rfl, HA, HJ2, HB⟩ := hcut
        cases kq with
        | zero => exact absurd HA.out (by simp [dunnageref02_one.j1])
        | succ kj2 =>
          have H := HA.out
          clear HA
          simp only [dunnageref02_one.j1] at H
          by_cases c5 : x20_2 = true
          · subst c5
            have H1 : (if 0 ≤ x8_1 then (if x8_1 < (l0.length : Int) then (if x8_1 = (wrap64 (a1 + 9)) then (dunnageref02_one.j2 kj2 l0 a1 x6_1 x7_1 x8_1 (IntKind.u64.wrap (Int.tmod (rd l0 x8_1) 128)) (decide ((IntKind.u64.wrap (Int.tmod (rd l0 x8_1) 128)) > 1))) else (dunnageref02_one.j2 kj2 l0 a1 x6_1 x7_1 x8_1 (IntKind.u64.wrap (Int.tmod (rd l0 x8_1) 128)) false)) else (none)) else (none)) = some (r1, r2) := by rw [if_pos rfl] at H; exact H
            clear H
            have H := H1
            clear H1
            by_cases c6 : 0 ≤ x8_1
            · rw [if_pos c6] at H
              have c6b0 : decide (0 ≤ x8_1) = true := decide_eq_true c6
              clear c6
              by_cases c7 : x8_1 < (l0.length : Int)
              · rw [if_pos c7] at H
                have c7b0 : decide (x8_1 < (l0.length : Int)) = true := decide_eq_true c7
                clear c7
                have HC8 := Aside0.mk H
                clear H
                have p101 : 0 ≤ (x8_1 : Int) := of_decide_eq_true F3_
                have q101 : x8_1 < (l0.length : Int) := of_decide_eq_true F3_
                obtain ⟨ad101, e101, hx101_0⟩ := Kd.at_int HR0.out x8_1 p101 q101
                cases e101
                replace hx101_0 := (HB.out.cell (World.block_lt_of_cell? w _ hx101_0)).trans hx101_0
                replace p101 := eq_true p101
                replace q101 := eq_true q101
                go_upto_region 7 with (fail)
                go_cut [36] (fun v36 wc => ∃ (kq : Nat) (x36_7 : Bool), v36 = .bool x36_7 ∧ Aside0 (dunnageref02_one.j2 kq l0 a1 x6_1 x7_1 x8_1 (IntKind.u64.wrap (Int.tmod (rd l0 x8_1) 128)) x36_7 = some (r1, r2)) ∧ Aside0 (kq ≤ kj2) ∧ Aside0 (Below w.heap.size w wc))
                case first =>
                  have H := HC8.out
                  clear HC8
                  by_cases c9 : x8_1 = (wrap64 (a1 + 9))
                  · rw [if_pos c9] at H
                    have c9b0 : (x8_1 == (wrap64 (a1 + 9))) = true := beq_iff_eq.mpr c9
                    have c9b1 : (x8_1 != (wrap64 (a1 + 9))) = false := bne_eq_false_iff_eq.mpr c9
                    clear c9
                    (first | rw [c9b0] | (simp only [i64_w, i32_w]; rw [c9b0]) | skip)
                    have H' := Aside0.mk H
                    clear H
                    go_wp2
                    go_meet
                    case rel => exact ⟨_, (decide ((IntKind.u64.wrap (Int.tmod (rd l0 x8_1) 128)) > 1)), F2_, H', ⟨by have := HK1.out; have := HJ2.out; first | omega | exact Nat.le_refl _⟩, ⟨F1_⟩⟩
                  · rw [if_neg c9] at H
                    have c9b0 : (x8_1 == (wrap64 (a1 + 9))) = false := beq_eq_false_iff_ne.mpr c9
                    have c9b1 : (x8_1 != (wrap64 (a1 + 9))) = true := bne_iff_ne.mpr c9
                    (first | rw [c9b0] | (simp only [i64_w, i32_w]; rw [c9b0]) | skip)
                    have H' := Aside0.mk H
                    clear H
                    go_wp2
                    go_meet
                    case rel => exact ⟨_, (false), F2_, H', ⟨by have := HK1.out; have := HJ2.out; first | omega | exact Nat.le_refl _⟩, ⟨F1_⟩⟩
                case rest =>
                  clear HC8
                  try clear c1
                  try clear p1
                  try clear q1
                  try clear hx1
                  try clear p2
                  try clear c4
                  try clear c4b0
                  try clear c5
                  try clear c6
                  try clear c6b0
                  try clear p6
                  try clear c7
                  try clear c7b0
                  try clear c9
                  try clear c9b0
                  try clear c9b1
                  try clear hx101_0
                  try clear p101
                  try clear p2
                  try clear q101
                  obtain ⟨kq, x36_7, rfl, HA, HJ7, HB⟩ := hcut
                  cases kq with
                  | zero => exact absurd HA.out (by simp [dunnageref02_one.j2])
                  | succ kj7 =>
                    have H := HA.out
                    clear HA
                    simp only [dunnageref02_one.j2] at H
                    by_cases c10 : x36_7 = true
                    · subst c10
                      have H1 : (some (0, (-1))) = some (r1, r2) := by rw [if_pos rfl] at H; exact H
                      clear H
                      have H := H1
                      clear H1
                      simp only [Option.some.injEq, Prod.mk.injEq] at H
                      obtain ⟨rfl, rfl⟩ := H
                      go_wp2
                      go_ret2
                      exact ⟨F4_, F1_⟩
                    · replace c10 := Bool.eq_false_iff.mpr c10
                      subst c10
                      have H1 : (if 0 ≤ x8_1 then (if x8_1 < (l0.length : Int) then (if (rd l0 x8_1) < 128 then ((dunnageref02_put.f kj7 (IntKind.u64.wrap (x6_1 + (IntKind.u64.wrap ((IntKind.u64.wrap (Int.tmod (rd l0 x8_1) 128)) * x7_1))))).bind fun t103 => (if (t103.length : Int) = (wrap64 ((wrap64 (x8_1 + 1)) - a1)) then (some (IntKind.u64.wrap (x6_1 + (IntKind.u64.wrap ((IntKind.u64.wrap (Int.tmod (rd l0 x8_1) 128)) * x7_1))), wrap64 (x8_1 + 1))) else (some (0, (-1))))) else (dunnageref02_one.l0 kj7 l0 a1 (IntKind.u64.wrap (x6_1 + (IntKind.u64.wrap ((IntKind.u64.wrap (Int.tmod (rd l0 x8_1) 128)) * x7_1)))) (IntKind.u64.wrap (x7_1 * 128)) (wrap64 (x8_1 + 1)))) else (none)) else (none)) = some (r1, r2) := by rw [if_neg (show ¬ (false = true) by decide)] at H; exact H
                      clear H
                      have H := H1
                      clear H1
                      by_cases c11 : 0 ≤ x8_1
                      · rw [if_pos c11] at H
                        have c11b0 : decide (0 ≤ x8_1) = true := decide_eq_true c11
                        clear c11
                        by_cases c12 : x8_1 < (l0.length : Int)
                        · rw [if_pos c12] at H
                          have c12b0 : decide (x8_1 < (l0.length : Int)) = true := decide_eq_true c12
                          clear c12
                          by_cases c13 : (rd l0 x8_1) < 128
                          · rw [if_pos c13] at H
                            have c13b0 : decide ((rd l0 x8_1) < 128) = true := decide_eq_true c13
                            clear c13
                            replace H := Option.bind_eq_some_iff.mp H
                            obtain ⟨t103, A140, H⟩ := H
                            replace H : (if (t103.length : Int) = (wrap64 ((wrap64 (x8_1 + 1)) - a1)) then (some (IntKind.u64.wrap (x6_1 + (IntKind.u64.wrap ((IntKind.u64.wrap (Int.tmod (rd l0 x8_1) 128)) * x7_1))), wrap64 (x8_1 + 1))) else (some (0, (-1)))) = some (r1, r2) := H
                            have A14 := Aside0.mk A140
                            clear A140
                            by_cases c15 : (t103.length : Int) = (wrap64 ((wrap64 (x8_1 + 1)) - a1))
                            · rw [if_pos c15] at H
                              have c15b0 : ((t103.length : Int) == (wrap64 ((wrap64 (x8_1 + 1)) - a1))) = true := beq_iff_eq.mpr c15
                              have c15b1 : ((t103.length : Int) != (wrap64 ((wrap64 (x8_1 + 1)) - a1))) = false := bne_eq_false_iff_eq.mpr c15
                              clear c15
                              simp only [Option.some.injEq, Prod.mk.injEq] at H
                              obtain ⟨rfl, rfl⟩ := H
                              have p102 : 0 ≤ (x8_1 : Int) := of_decide_eq_true F3_
                              have q102 : x8_1 < (l0.length : Int) := of_decide_eq_true F3_
                              obtain ⟨ad102, e102, hx102_0⟩ := Kd.at_int HR0.out x8_1 p102 q102
                              obtain rfl : ad101 = ad102 := (by injection e102)
                              replace hx102_0 := (HB.out.cell (World.block_lt_of_cell? w _ hx102_0)).trans hx102_0
                              replace p102 := eq_true p102
                              replace q102 := eq_true q102
                              go_wp2_with (first | ((with_reducible refine gate_callee (f := 117) rfl ?_); refine goesL_ (some 50) rfl rfl Try.func117 (by kernel_rfl) rfl #[.int .u64 (IntKind.u64.wrap (x6_1 + (IntKind.u64.wrap ((IntKind.u64.wrap (Int.tmod (rd l0 x8_1) 128)) * x7_1))))] rfl (by (try simp only [List.map_toArray, List.map_cons, List.map_nil]); first | done | rfl | (simp only [List.length_drop, List.length_take]; rfl)) ?_; (with_reducible refine (dunnageref02_put.calls kj7 (IntKind.u64.wrap (x6_1 + (IntKind.u64.wrap ((IntKind.u64.wrap (Int.tmod (rd l0 x8_1) 128)) * x7_1)))) t103 _ A14.out).mono ?_); rintro e w16 ⟨v104, rfl, ho0, hb⟩; refine ⟨_, rfl, ?_⟩; have n0_ := Aside0.mk (Kd.R_lower ho0 (below_size (F1_))); have n1_ := Aside0.mk (below_step (F1_) hb); clear HB; have HO105 := n0_; have HB := n1_; clear n0_ n1_; (try clear hb); (try clear hb2); (try clear hk); (try clear hi); (try clear ho0); obtain ⟨Ao17, co17, eo17⟩ := Kd.R_slice HO105.out; subst eo17))
                              go_ret2
                              exact ⟨F4_, F1_⟩
                            · rw [if_neg c15] at H
                              have c15b0 : ((t103.length : Int) == (wrap64 ((wrap64 (x8_1 + 1)) - a1))) = false := beq_eq_false_iff_ne.mpr c15
                              have c15b1 : ((t103.length : Int) != (wrap64 ((wrap64 (x8_1 + 1)) - a1))) = true := bne_iff_ne.mpr c15
                              simp only [Option.some.injEq, Prod.mk.injEq] at H
                              obtain ⟨rfl, rfl⟩ := H
                              have p102 : 0 ≤ (x8_1 : Int) := of_decide_eq_true F3_
                              have q102 : x8_1 < (l0.length : Int) := of_decide_eq_true F3_
                              obtain ⟨ad102, e102, hx102_0⟩ := Kd.at_int HR0.out x8_1 p102 q102
                              obtain rfl : ad101 = ad102 := (by injection e102)
                              replace hx102_0 := (HB.out.cell (World.block_lt_of_cell? w _ hx102_0)).trans hx102_0
                              replace p102 := eq_true p102
                              replace q102 := eq_true q102
                              go_wp2_with (first | ((with_reducible refine gate_callee (f := 117) rfl ?_); refine goesL_ (some 50) rfl rfl Try.func117 (by kernel_rfl) rfl #[.int .u64 (IntKind.u64.wrap (x6_1 + (IntKind.u64.wrap ((IntKind.u64.wrap (Int.tmod (rd l0 x8_1) 128)) * x7_1))))] rfl (by (try simp only [List.map_toArray, List.map_cons, List.map_nil]); first | done | rfl | (simp only [List.length_drop, List.length_take]; rfl)) ?_; (with_reducible refine (dunnageref02_put.calls kj7 (IntKind.u64.wrap (x6_1 + (IntKind.u64.wrap ((IntKind.u64.wrap (Int.tmod (rd l0 x8_1) 128)) * x7_1)))) t103 _ A14.out).mono ?_); rintro e w18 ⟨v104, rfl, ho0, hb⟩; refine ⟨_, rfl, ?_⟩; have n0_ := Aside0.mk (Kd.R_lower ho0 (below_size (F1_))); have n1_ := Aside0.mk (below_step (F1_) hb); clear HB; have HO105 := n0_; have HB := n1_; clear n0_ n1_; (try clear hb); (try clear hb2); (try clear hk); (try clear hi); (try clear ho0); obtain ⟨Ao19, co19, eo19⟩ := Kd.R_slice HO105.out; subst eo19))
                              go_ret2
                              exact ⟨F4_, F1_⟩
                          · rw [if_neg c13] at H
                            have c13b0 : decide ((rd l0 x8_1) < 128) = false := decide_eq_false c13
                            clear c13
                            have H' := Aside0.mk H
                            clear H
                            have p102 : 0 ≤ (x8_1 : Int) := of_decide_eq_true F3_
                            have q102 : x8_1 < (l0.length : Int) := of_decide_eq_true F3_
                            obtain ⟨ad102, e102, hx102_0⟩ := Kd.at_int HR0.out x8_1 p102 q102
                            obtain rfl : ad101 = ad102 := (by injection e102)
                            replace hx102_0 := (HB.out.cell (World.block_lt_of_cell? w _ hx102_0)).trans hx102_0
                            replace p102 := eq_true p102
                            replace q102 := eq_true q102
                            go_wp2
                            go_roundg kj7
                            case measure => have := HK1.out; have := HJ2.out; have := HJ7.out; omega
                            case rel => exact ⟨(IntKind.u64.wrap (x6_1 + (IntKind.u64.wrap ((IntKind.u64.wrap (Int.tmod (rd l0 x8_1) 128)) * x7_1)))), (IntKind.u64.wrap (x7_1 * 128)), (wrap64 (x8_1 + 1)), F2_, F2_, F2_, H', ⟨by have := HK1.out; have := HJ2.out; have := HJ7.out; omega⟩, ⟨F1_⟩⟩
                        · rw [if_neg c12] at H
                          exact absurd H (by simp)
                      · rw [if_neg c11] at H
                        exact absurd H (by simp)
              · rw [if_neg c7] at H
                exact absurd H (by simp)
            · rw [if_neg c6] at H
              exact absurd H (by simp)
          · replace c5 := Bool.eq_false_iff.mpr c5
            subst c5
            have H1 : (some (0, (-1))) = some (r1, r2) := by rw [if_neg (show ¬ (false = true) by decide)] at H; exact H
            clear H
            have H := H1
            clear H1
            simp only [Option.some.injEq, Prod.mk.injEq] at H
            obtain ⟨rfl, rfl⟩ := H
            go_wp2
            go_ret2
            exact ⟨F4_, F1_⟩

end Go.Proofs.Ytppfkbigeknedaa.Q
