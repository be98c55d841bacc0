import Derived.Test.YtppfkbigeknedaaKQ0
namespace Go.Proofs.Ytppfkbigeknedaa.Q
open Go.RowKit Go.Proofs.YtppfkbigeknedaaW.PrintWords Go.Proofs.YtppfkbigeknedaaW.PrintLast Go.Proofs.YtppfkbigeknedaaW.PrintMore
attribute [local go_sem] max2_int min2_int max_two min_two max_three min_three max_four min_four   -- for this text's walks alone
set_option linter.unusedVariables false
set_option linter.unusedSimpArgs false

attribute [local go_sem] eqe_ii eqe_nn eqe_ni eqe_nni
/-! ### wire_one: function 141 -/
mutual
def wire_one.l0 : Nat → List Int → Int → Int → Int → Int → Option (Int × Int × Bool)
  | 0, _, _, _, _, _ => none
  | k + 1, x0, x1, x7, x8, x9 => if x8 < (x0.length : Int) then (if 0 ≤ x8 then (if x9 = 63 then (if (IntKind.u64.wrap (rd x0 x8)) > 1 then (wire_one.j1 k x0 x1 x7 x8 x9 (IntKind.u64.wrap (rd x0 x8)) true) else (if x8 > x1 then (wire_one.j1 k x0 x1 x7 x8 x9 (IntKind.u64.wrap (rd x0 x8)) ((IntKind.u64.wrap (rd x0 x8)) == 0)) else (wire_one.j1 k x0 x1 x7 x8 x9 (IntKind.u64.wrap (rd x0 x8)) false))) else (if x8 > x1 then (wire_one.j1 k x0 x1 x7 x8 x9 (IntKind.u64.wrap (rd x0 x8)) ((IntKind.u64.wrap (rd x0 x8)) == 0)) else (wire_one.j1 k x0 x1 x7 x8 x9 (IntKind.u64.wrap (rd x0 x8)) false))) else (none)) else (some (0, 0, false))
def wire_one.j1 : Nat → List Int → Int → Int → Int → Int → Int → Bool → Option (Int × Int × Bool)
  | 0, _, _, _, _, _, _, _ => none
  | k + 1, x0, x1, x7, x8, x9, x10, x39 => if x39 = true then (some (0, 0, false)) else (if 0 ≤ x9 then (if x10 < 128 then (some (Go.bits .or .u64 x7 (shl .u64 (Go.bits .andNot .u64 x10 128) x9), wrap64 (x8 + 1), true)) else (wire_one.l0 k x0 x1 (Go.bits .or .u64 x7 (shl .u64 (Go.bits .andNot .u64 x10 128) x9)) (wrap64 (x8 + 1)) (wrap64 (x9 + 7)))) else (none))
end
def wire_one.f (k : Nat) (l0 : List Int) (a1 : Int) : Option (Int × Int × Bool) := wire_one.l0 k l0 a1 0 a1 0
theorem wire_one.mono_l : ∀ k, (∀ y0 y1 y2 y3 y4, LeO (wire_one.l0 k y0 y1 y2 y3 y4) (wire_one.l0 (k + 1) y0 y1 y2 y3 y4)) ∧ (∀ y0 y1 y2 y3 y4 y5 y6, LeO (wire_one.j1 k y0 y1 y2 y3 y4 y5 y6) (wire_one.j1 (k + 1) y0 y1 y2 y3 y4 y5 y6))
  | 0 => ⟨fun _ _ _ _ _ r h => by simp [wire_one.l0] at h, fun _ _ _ _ _ _ _ r h => by simp [wire_one.j1] at h⟩
  | k + 1 => by
    obtain ⟨ih0, ih1⟩ := wire_one.mono_l k
    refine ⟨?_, ?_⟩
    · intro y0 y1 y2 y3 y4
      unfold wire_one.l0
      repeat' first
      | (with_reducible exact ih0 _ _ _ _ _)
      | (with_reducible exact ih1 _ _ _ _ _ _ _)
      | (with_reducible exact LeO.refl _)
      | (with_reducible exact LeO.none _)
      | (with_reducible refine LeO.ite ?_ ?_)
      | (with_reducible refine LeO.bind ?_ (fun _ => ?_))
      | exact ih0 _ _ _ _ _
      | exact ih1 _ _ _ _ _ _ _
      | exact LeO.none _
      | refine LeO.ite ?_ ?_
      | refine LeO.bind ?_ (fun _ => ?_)
    · intro y0 y1 y2 y3 y4 y5 y6
      unfold wire_one.j1
      repeat' first
      | (with_reducible exact ih0 _ _ _ _ _)
      | (with_reducible exact ih1 _ _ _ _ _ _ _)
      | (with_reducible exact LeO.refl _)
      | (with_reducible exact LeO.none _)
      | (with_reducible refine LeO.ite ?_ ?_)
      | (with_reducible refine LeO.bind ?_ (fun _ => ?_))
      | exact ih0 _ _ _ _ _
      | exact ih1 _ _ _ _ _ _ _
      | exact LeO.none _
      | refine LeO.ite ?_ ?_
      | refine LeO.bind ?_ (fun _ => ?_)
theorem wire_one.mono : ∀ a0 a1 k, LeO (wire_one.f k a0 a1) (wire_one.f (k + 1) a0 a1) := by
  intro a0 a1 k
  obtain ⟨ih0, ih1⟩ := wire_one.mono_l k
  unfold wire_one.f
  repeat' first
      | (with_reducible exact ih0 _ _ _ _ _)
      | (with_reducible exact ih1 _ _ _ _ _ _ _)
      | (with_reducible exact LeO.refl _)
      | (with_reducible exact LeO.none _)
      | (with_reducible refine LeO.ite ?_ ?_)
      | (with_reducible refine LeO.bind ?_ (fun _ => ?_))
      | exact ih0 _ _ _ _ _
      | exact ih1 _ _ _ _ _ _ _
      | exact LeO.none _
      | refine LeO.ite ?_ ?_
      | refine LeO.bind ?_ (fun _ => ?_)
set_option maxHeartbeats 8000000 in
set_option maxRecDepth 100000 in
theorem wire_one.calls (k : Nat) (A0 : Option Addr) (c0 : Nat) (l0 : List Int) (a1 : Int) (r1 : Int) (r2 : Int) (r3 : Bool) (w : World) (hr0 : Kd.C (Kd.int .u8) w A0 l0.length l0) (hc0 : l0.length ≤ c0) (h : wire_one.f k l0 a1 = some (r1, r2, r3)) :
    Calls Try.prog 141 #[.slice A0 l0.length c0, .int .i64 a1] w fun e w' => e = .returned (.tuple #[.int .u64 r1, .int .i64 r2, .bool r3]) ∧ Drawn0 w w' := by
  have HR0 := Aside0.mk hr0
  have HC0 := Aside0.mk hc0
  clear hr0 hc0
  have H : (wire_one.l0 k l0 a1 0 a1 0) = some (r1, r2, r3) := h
  clear h
  have H' := Aside0.mk H
  clear H
  go_enter Try.func141, Try.ntmps141
  go_wp2
  go_loopg [7, 8, 9] k (fun kq v7 v8 v9 w' => ∃ (x7_1 : Int) (x8_1 : Int) (x9_1 : Int), v7 = .int .u64 x7_1 ∧ v8 = .int .i64 x8_1 ∧ v9 = .int .i64 x9_1 ∧ Aside0 (wire_one.l0 kq l0 a1 x7_1 x8_1 x9_1 = some (r1, r2, r3)) ∧ Aside0 (kq ≤ k) ∧ Drawn0 w w')
  case atStart => exact ⟨(0), (a1), (0), (by first | rfl | (simp; done) | (simp [*]; done)), (by first | rfl | (simp; done) | (simp [*]; done)), (by first | rfl | (simp; done) | (simp [*]; done)), H', ⟨Nat.le_refl _⟩, by repeat (first | exact Drawn0.refl _ | apply Drawn0.step)⟩
  case round =>
    clear H'
    try clear c1
    try clear p2
    obtain ⟨x7_1, x8_1, x9_1, rfl, rfl, rfl, HA, HK1, ⟨m1, rfl⟩⟩ := hrel
    cases gk with
    | zero => exact absurd HA.out (by simp [wire_one.l0])
    | succ k1 =>
      have H := HA.out
      clear HA
      simp only [wire_one.l0] at H
      by_cases c3 : x8_1 < (l0.length : Int)
      · rw [if_pos c3] at H
        have c3b0 : decide (x8_1 < (l0.length : Int)) = true := decide_eq_true c3
        clear c3
        by_cases c4 : 0 ≤ x8_1
        · rw [if_pos c4] at H
          have c4b0 : decide (0 ≤ x8_1) = true := decide_eq_true c4
          clear c4
          have HC5 := Aside0.mk H
          clear H
          have p101 : 0 ≤ (x8_1 : Int) := of_decide_eq_true (by first | (with_reducible assumption) | assumption)
          have q101 : x8_1 < (l0.length : Int) := of_decide_eq_true (by first | (with_reducible assumption) | assumption)
          obtain ⟨ad101, e101, hx101_0⟩ := Kd.at_int HR0.out x8_1 p101 q101
          cases e101
          replace p101 := eq_true p101
          replace q101 := eq_true q101
          go_upto_region 6 with (fail)
          go_cut [39] (fun v39 wc => ∃ (kq : Nat) (x39_4 : Bool), v39 = .bool x39_4 ∧ Aside0 (wire_one.j1 kq l0 a1 x7_1 x8_1 x9_1 (IntKind.u64.wrap (rd l0 x8_1)) x39_4 = some (r1, r2, r3)) ∧ Aside0 (kq ≤ k1) ∧ Drawn0 w wc)
          case first =>
            have H := HC5.out
            clear HC5
            by_cases c6 : x9_1 = 63
            · rw [if_pos c6] at H
              have c6b0 : (x9_1 == 63) = true := beq_iff_eq.mpr c6
              have c6b1 : (x9_1 != 63) = false := bne_eq_false_iff_eq.mpr c6
              clear c6
              (first | rw [c6b0] | (simp only [i64_w, i32_w]; rw [c6b0]) | skip)
              by_cases c7 : (IntKind.u64.wrap (rd l0 x8_1)) > 1
              · rw [if_pos c7] at H
                have c7b0 : decide (1 < (IntKind.u64.wrap (rd l0 x8_1))) = true := decide_eq_true c7
                clear c7
                have H' := Aside0.mk H
                clear H
                go_wp2
                go_meet
                case rel => exact ⟨_, (true), (by first | rfl | (simp; done) | (simp [*]; done)), H', ⟨by have := HK1.out; first | omega | exact Nat.le_refl _⟩, by repeat (first | exact Drawn0.refl _ | apply Drawn0.step)⟩
              · rw [if_neg c7] at H
                have c7b0 : decide (1 < (IntKind.u64.wrap (rd l0 x8_1))) = false := decide_eq_false c7
                clear c7
                by_cases c8 : x8_1 > a1
                · rw [if_pos c8] at H
                  have c8b0 : decide (a1 < x8_1) = true := decide_eq_true c8
                  clear c8
                  have H' := Aside0.mk H
                  clear H
                  go_wp2
                  go_meet
                  case rel => exact ⟨_, (((IntKind.u64.wrap (rd l0 x8_1)) == 0)), (by first | rfl | (simp; done) | (simp [*]; done)), H', ⟨by have := HK1.out; first | omega | exact Nat.le_refl _⟩, by repeat (first | exact Drawn0.refl _ | apply Drawn0.step)⟩
                · rw [if_neg c8] at H
                  have c8b0 : decide (a1 < x8_1) = false := decide_eq_false c8
                  clear c8
                  have H' := Aside0.mk H
                  clear H
                  go_wp2
                  go_meet
                  case rel => exact ⟨_, (false), (by first | rfl | (simp; done) | (simp [*]; done)), H', ⟨by have := HK1.out; first | omega | exact Nat.le_refl _⟩, by repeat (first | exact Drawn0.refl _ | apply Drawn0.step)⟩
            · rw [if_neg c6] at H
              have c6b0 : (x9_1 == 63) = false := beq_eq_false_iff_ne.mpr c6
              have c6b1 : (x9_1 != 63) = true := bne_iff_ne.mpr c6
              (first | rw [c6b0] | (simp only [i64_w, i32_w]; rw [c6b0]) | skip)
              by_cases c9 : x8_1 > a1
              · rw [if_pos c9] at H
                have c9b0 : decide (a1 < x8_1) = true := decide_eq_true c9
                clear c9
                have H' := Aside0.mk H
                clear H
                go_wp2
                go_meet
                case rel => exact ⟨_, (((IntKind.u64.wrap (rd l0 x8_1)) == 0)), (by first | rfl | (simp; done) | (simp [*]; done)), H', ⟨by have := HK1.out; first | omega | exact Nat.le_refl _⟩, by repeat (first | exact Drawn0.refl _ | apply Drawn0.step)⟩
              · rw [if_neg c9] at H
                have c9b0 : decide (a1 < x8_1) = false := decide_eq_false c9
                clear c9
                have H' := Aside0.mk H
                clear H
                go_wp2
                go_meet
                case rel => exact ⟨_, (false), (by first | rfl | (simp; done) | (simp [*]; done)), H', ⟨by have := HK1.out; first | omega | exact Nat.le_refl _⟩, by repeat (first | exact Drawn0.refl _ | apply Drawn0.step)⟩
          case rest =>
            clear HC5
            try clear c1
            try clear p1
            try clear q1
            try clear hx1
            try clear p2
            try clear c3
            try clear c3b0
            try clear c4
            try clear c4b0
            try clear c6
            try clear c6b0
            try clear c6b1
            try clear c7
            try clear c7b0
            try clear c8
            try clear c8b0
            try clear c9
            try clear c9b0
            try clear hx101_0
            try clear p101
            try clear p2
            try clear q101
            obtain ⟨kq, x39_4, rfl, HA, HJ4, ⟨mc4, rfl⟩⟩ := hcut
            cases kq with
            | zero => exact absurd HA.out (by simp [wire_one.j1])
            | succ kj4 =>
              have H := HA.out
              clear HA
              simp only [wire_one.j1] at H
              by_cases c10 : x39_4 = true
              · subst c10
                have H1 : (some (0, 0, false)) = some (r1, r2, r3) := by rw [if_pos rfl] at H; exact H
                clear H
                have H := H1
                clear H1
                simp only [Option.some.injEq, Prod.mk.injEq] at H
                obtain ⟨rfl, rfl, rfl⟩ := H
                go_wp2
                go_ret3
                exact ⟨by first | rfl | (simp; done) | (simp [*]; done), by repeat (first | exact Drawn0.refl _ | apply Drawn0.step)⟩
              · replace c10 := Bool.eq_false_iff.mpr c10
                subst c10
                have H1 : (if 0 ≤ x9_1 then (if (IntKind.u64.wrap (rd l0 x8_1)) < 128 then (some (Go.bits .or .u64 x7_1 (shl .u64 (Go.bits .andNot .u64 (IntKind.u64.wrap (rd l0 x8_1)) 128) x9_1), wrap64 (x8_1 + 1), true)) else (wire_one.l0 kj4 l0 a1 (Go.bits .or .u64 x7_1 (shl .u64 (Go.bits .andNot .u64 (IntKind.u64.wrap (rd l0 x8_1)) 128) x9_1)) (wrap64 (x8_1 + 1)) (wrap64 (x9_1 + 7)))) else (none)) = some (r1, r2, r3) := by rw [if_neg (show ¬ (false = true) by decide)] at H; exact H
                clear H
                have H := H1
                clear H1
                by_cases c11 : 0 ≤ x9_1
                · rw [if_pos c11] at H
                  have c11b0 := eq_true c11
                  have c11b1 : decide (0 ≤ x9_1) = true := decide_eq_true c11
                  clear c11
                  obtain ⟨ji12, hji12⟩ : ∃ j_ : Int, (shl .u64 (Go.bits .andNot .u64 (IntKind.u64.wrap (rd l0 x8_1)) 128) x9_1) = j_ := ⟨_, rfl⟩
                  replace H : (if (IntKind.u64.wrap (rd l0 x8_1)) < 128 then (some (Go.bits .or .u64 x7_1 (ji12), wrap64 (x8_1 + 1), true)) else (wire_one.l0 kj4 l0 a1 (Go.bits .or .u64 x7_1 (ji12)) (wrap64 (x8_1 + 1)) (wrap64 (x9_1 + 7)))) = some (r1, r2, r3) := by first | (rw [hji12] at H; exact H) | (simp only [hji12] at H ⊢; exact H)
                  have hji12_ : (IntKind.u64.wrap ((Go.bits .andNot .u64 (IntKind.u64.wrap (rd l0 x8_1)) 128) * 2 ^ min x9_1.toNat 64)) = ji12 := hji12
                  have hji12z : x9_1 ≤ 64 → (IntKind.u64.wrap ((Go.bits .andNot .u64 (IntKind.u64.wrap (rd l0 x8_1)) 128) * 2 ^ x9_1.toNat)) = ji12 := shl_small hji12
                  by_cases c13 : (IntKind.u64.wrap (rd l0 x8_1)) < 128
                  · rw [if_pos c13] at H
                    have c13b0 : decide ((IntKind.u64.wrap (rd l0 x8_1)) < 128) = true := decide_eq_true c13
                    clear c13
                    simp only [Option.some.injEq, Prod.mk.injEq] at H
                    obtain ⟨rfl, rfl, rfl⟩ := H
                    go_wp2
                    go_ret3
                    exact ⟨by first | rfl | (simp; done) | (simp only [← hji12] <;> (first | rfl | simp)) | (simp [*]; done), by repeat (first | exact Drawn0.refl _ | apply Drawn0.step)⟩
                  · rw [if_neg c13] at H
                    have c13b0 : decide ((IntKind.u64.wrap (rd l0 x8_1)) < 128) = false := decide_eq_false c13
                    clear c13
                    have H' := Aside0.mk H
                    clear H
                    go_wp2
                    go_roundg kj4
                    case measure => have := HK1.out; have := HJ4.out; omega
                    case rel => exact ⟨(Go.bits .or .u64 x7_1 (ji12)), (wrap64 (x8_1 + 1)), (wrap64 (x9_1 + 7)), (by first | rfl | (simp; done) | (simp only [← hji12] <;> (first | rfl | simp)) | (simp [*]; done)), (by first | rfl | (simp; done) | (simp [*]; done)), (by first | rfl | (simp; done) | (simp [*]; done)), H', ⟨by have := HK1.out; have := HJ4.out; omega⟩, by repeat (first | exact Drawn0.refl _ | apply Drawn0.step)⟩
                · rw [if_neg c11] at H
                  exact absurd H (by simp)
        · rw [if_neg c4] at H
          exact absurd H (by simp)
      · rw [if_neg c3] at H
        have c3b0 : decide (x8_1 < (l0.length : Int)) = false := decide_eq_false c3
        clear c3
        simp only [Option.some.injEq, Prod.mk.injEq] at H
        obtain ⟨rfl, rfl, rfl⟩ := H
        go_wp2
        go_ret3
        exact ⟨by first | rfl | (simp; done) | (simp [*]; done), by repeat (first | exact Drawn0.refl _ | apply Drawn0.step)⟩

end Go.Proofs.Ytppfkbigeknedaa.Q
