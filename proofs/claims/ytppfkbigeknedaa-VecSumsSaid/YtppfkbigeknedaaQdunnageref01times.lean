-- written by a program of this session
import Derived.Test.YtppfkbigeknedaaQ0
import Derived.Test.YtppfkbigeknedaaQdunnageref01half
import Derived.Test.YtppfkbigeknedaaQdunnageref01one
namespace Go.Proofs.Ytppfkbigeknedaa.Q
open Go.RowKit Go.Proofs.YtppfkbigeknedaaW.PrintWords Go.Proofs.YtppfkbigeknedaaW.PrintLast Go.Proofs.YtppfkbigeknedaaW.PrintMore
attribute [local go_sem] max2_int min2_int max_two min_two max_three min_three max_four min_four   -- for this text's walks alone
set_option linter.unusedVariables false
set_option linter.unusedSimpArgs false

attribute [local go_sem] eqe_ii eqe_nn eqe_ni eqe_nni
/-! ### dunnageref01_times: function 85 -/
mutual
def dunnageref01_times.j0 : Nat → Int → Int → Int → Int → Bool → Option (Int × Bool)
  | 0, _, _, _, _, _ => none
  | k + 1, x0, x1, x6, x7, x27 => if x27 = true then (some (0, false)) else ((dunnageref01_one.f x6 x7).bind fun bt107 => (if bt107.2 = true then (dunnageref01_times.j1 k x0 x1 bt107.1 (decide (bt107.1 ≥ 4294967296))) else (dunnageref01_times.j1 k x0 x1 bt107.1 true)))
def dunnageref01_times.j1 : Nat → Int → Int → Int → Bool → Option (Int × Bool)
  | 0, _, _, _, _ => none
  | k + 1, x0, x1, x8, x39 => if x39 = true then (some (0, false)) else ((dunnageref01_half.f x0 false).bind fun t109 => ((dunnageref01_half.f x1 false).bind fun t110 => ((dunnageref01_one.f (IntKind.u64.wrap (x8 * 4294967296)) (IntKind.u64.wrap (t109 * t110))).bind fun bt111 => (some (bt111.1, bt111.2)))))
end
def dunnageref01_times.f (k : Nat) (a0 : Int) (a1 : Int) : Option (Int × Bool) := (dunnageref01_half.f a0 true).bind fun t101 => ((dunnageref01_half.f a1 false).bind fun t102 => ((dunnageref01_half.f a0 false).bind fun t103 => ((dunnageref01_half.f a1 true).bind fun t104 => ((dunnageref01_half.f a0 true).bind fun t105 => (if t105 > 0 then ((dunnageref01_half.f a1 true).bind fun t106 => (dunnageref01_times.j0 k a0 a1 (IntKind.u64.wrap (t101 * t102)) (IntKind.u64.wrap (t103 * t104)) (decide (t106 > 0)))) else (dunnageref01_times.j0 k a0 a1 (IntKind.u64.wrap (t101 * t102)) (IntKind.u64.wrap (t103 * t104)) false))))))
theorem dunnageref01_times.mono_l : ∀ k, (∀ y0 y1 y2 y3 y4, LeO (dunnageref01_times.j0 k y0 y1 y2 y3 y4) (dunnageref01_times.j0 (k + 1) y0 y1 y2 y3 y4)) ∧ (∀ y0 y1 y2 y3, LeO (dunnageref01_times.j1 k y0 y1 y2 y3) (dunnageref01_times.j1 (k + 1) y0 y1 y2 y3))
  | 0 => ⟨fun _ _ _ _ _ r h => by simp [dunnageref01_times.j0] at h, fun _ _ _ _ r h => by simp [dunnageref01_times.j1] at h⟩
  | k + 1 => by
    obtain ⟨ih0, ih1⟩ := dunnageref01_times.mono_l k
    refine ⟨?_, ?_⟩
    · intro y0 y1 y2 y3 y4
      unfold dunnageref01_times.j0
      repeat' first
      | (with_reducible exact ih0 _ _ _ _ _)
      | (with_reducible exact ih1 _ _ _ _)
      | (with_reducible exact LeO.refl _)
      | (with_reducible exact LeO.none _)
      | (with_reducible refine LeO.ite ?_ ?_)
      | (with_reducible refine LeO.bind ?_ (fun _ => ?_))
      | exact ih0 _ _ _ _ _
      | exact ih1 _ _ _ _
      | exact LeO.none _
      | refine LeO.ite ?_ ?_
      | refine LeO.bind ?_ (fun _ => ?_)
    · intro y0 y1 y2 y3
      unfold dunnageref01_times.j1
      repeat' first
      | (with_reducible exact ih0 _ _ _ _ _)
      | (with_reducible exact ih1 _ _ _ _)
      | (with_reducible exact LeO.refl _)
      | (with_reducible exact LeO.none _)
      | (with_reducible refine LeO.ite ?_ ?_)
      | (with_reducible refine LeO.bind ?_ (fun _ => ?_))
      | exact ih0 _ _ _ _ _
      | exact ih1 _ _ _ _
      | exact LeO.none _
      | refine LeO.ite ?_ ?_
      | refine LeO.bind ?_ (fun _ => ?_)
theorem dunnageref01_times.mono : ∀ a0 a1 k, LeO (dunnageref01_times.f k a0 a1) (dunnageref01_times.f (k + 1) a0 a1) := by
  intro a0 a1 k
  obtain ⟨ih0, ih1⟩ := dunnageref01_times.mono_l k
  unfold dunnageref01_times.f
  repeat' first
      | (with_reducible exact ih0 _ _ _ _ _)
      | (with_reducible exact ih1 _ _ _ _)
      | (with_reducible exact LeO.refl _)
      | (with_reducible exact LeO.none _)
      | (with_reducible refine LeO.ite ?_ ?_)
      | (with_reducible refine LeO.bind ?_ (fun _ => ?_))
      | exact ih0 _ _ _ _ _
      | exact ih1 _ _ _ _
      | exact LeO.none _
      | refine LeO.ite ?_ ?_
      | refine LeO.bind ?_ (fun _ => ?_)
set_option maxHeartbeats 8000000 in
set_option maxRecDepth 100000 in
theorem dunnageref01_times.calls (k : Nat) (a0 : Int) (a1 : Int) (r1 : Int) (r2 : Bool) (w : World) (h : dunnageref01_times.f k a0 a1 = some (r1, r2)) :
    Calls Try.prog 85 #[.int .u64 a0, .int .u64 a1] w fun e w' => e = .returned (.tuple #[.int .u64 r1, .bool r2]) ∧ Drawn0 w w' := by
  have H : ((dunnageref01_half.f a0 true).bind fun t101 => ((dunnageref01_half.f a1 false).bind fun t102 => ((dunnageref01_half.f a0 false).bind fun t103 => ((dunnageref01_half.f a1 true).bind fun t104 => ((dunnageref01_half.f a0 true).bind fun t105 => (if t105 > 0 then ((dunnageref01_half.f a1 true).bind fun t106 => (dunnageref01_times.j0 k a0 a1 (IntKind.u64.wrap (t101 * t102)) (IntKind.u64.wrap (t103 * t104)) (decide (t106 > 0)))) else (dunnageref01_times.j0 k a0 a1 (IntKind.u64.wrap (t101 * t102)) (IntKind.u64.wrap (t103 * t104)) false))))))) = some (r1, r2) := h
  clear h
  replace H := Option.bind_eq_some_iff.mp H
  obtain ⟨t101, A30, H⟩ := H
  replace H : ((dunnageref01_half.f a1 false).bind fun t102 => ((dunnageref01_half.f a0 false).bind fun t103 => ((dunnageref01_half.f a1 true).bind fun t104 => ((dunnageref01_half.f a0 true).bind fun t105 => (if t105 > 0 then ((dunnageref01_half.f a1 true).bind fun t106 => (dunnageref01_times.j0 k a0 a1 (IntKind.u64.wrap (t101 * t102)) (IntKind.u64.wrap (t103 * t104)) (decide (t106 > 0)))) else (dunnageref01_times.j0 k a0 a1 (IntKind.u64.wrap (t101 * t102)) (IntKind.u64.wrap (t103 * t104)) false)))))) = some (r1, r2) := H
  have A3 := Aside0.mk A30
  clear A30
  replace H := Option.bind_eq_some_iff.mp H
  obtain ⟨t102, A40, H⟩ := H
  replace H : ((dunnageref01_half.f a0 false).bind fun t103 => ((dunnageref01_half.f a1 true).bind fun t104 => ((dunnageref01_half.f a0 true).bind fun t105 => (if t105 > 0 then ((dunnageref01_half.f a1 true).bind fun t106 => (dunnageref01_times.j0 k a0 a1 (IntKind.u64.wrap (t101 * t102)) (IntKind.u64.wrap (t103 * t104)) (decide (t106 > 0)))) else (dunnageref01_times.j0 k a0 a1 (IntKind.u64.wrap (t101 * t102)) (IntKind.u64.wrap (t103 * t104)) false))))) = some (r1, r2) := H
  have A4 := Aside0.mk A40
  clear A40
  replace H := Option.bind_eq_some_iff.mp H
  obtain ⟨t103, A50, H⟩ := H
  replace H : ((dunnageref01_half.f a1 true).bind fun t104 => ((dunnageref01_half.f a0 true).bind fun t105 => (if t105 > 0 then ((dunnageref01_half.f a1 true).bind fun t106 => (dunnageref01_times.j0 k a0 a1 (IntKind.u64.wrap (t101 * t102)) (IntKind.u64.wrap (t103 * t104)) (decide (t106 > 0)))) else (dunnageref01_times.j0 k a0 a1 (IntKind.u64.wrap (t101 * t102)) (IntKind.u64.wrap (t103 * t104)) false)))) = some (r1, r2) := H
  have A5 := Aside0.mk A50
  clear A50
  replace H := Option.bind_eq_some_iff.mp H
  obtain ⟨t104, A60, H⟩ := H
  replace H : ((dunnageref01_half.f a0 true).bind fun t105 => (if t105 > 0 then ((dunnageref01_half.f a1 true).bind fun t106 => (dunnageref01_times.j0 k a0 a1 (IntKind.u64.wrap (t101 * t102)) (IntKind.u64.wrap (t103 * t104)) (decide (t106 > 0)))) else (dunnageref01_times.j0 k a0 a1 (IntKind.u64.wrap (t101 * t102)) (IntKind.u64.wrap (t103 * t104)) false))) = some (r1, r2) := H
  have A6 := Aside0.mk A60
  clear A60
  have HC7 := Aside0.mk H
  clear H
  go_enter Try.func85, Try.ntmps85
  go_upto_region 3 with (first | ((with_reducible refine gate_callee (f := 118) rfl ?_); refine goesL_ (some 11) rfl rfl Try.func118 (by kernel_rfl) rfl #[.int .u64 a0, .bool true] rfl (by (try simp only [List.map_toArray, List.map_cons, List.map_nil]); first | done | rfl | (simp only [List.length_drop, List.length_take]; rfl)) ?_; (with_reducible refine (dunnageref01_half.calls a0 true t101 _ A3.out).mono ?_); rintro e w' ⟨rfl, ⟨nd, rfl⟩⟩; refine ⟨_, rfl, ?_⟩) | ((with_reducible refine gate_callee (f := 118) rfl ?_); refine goesL_ (some 13) rfl rfl Try.func118 (by kernel_rfl) rfl #[.int .u64 a1, .bool false] rfl (by (try simp only [List.map_toArray, List.map_cons, List.map_nil]); first | done | rfl | (simp only [List.length_drop, List.length_take]; rfl)) ?_; (with_reducible refine (dunnageref01_half.calls a1 false t102 _ A4.out).mono ?_); rintro e w' ⟨rfl, ⟨nd, rfl⟩⟩; refine ⟨_, rfl, ?_⟩) | ((with_reducible refine gate_callee (f := 118) rfl ?_); refine goesL_ (some 16) rfl rfl Try.func118 (by kernel_rfl) rfl #[.int .u64 a0, .bool false] rfl (by (try simp only [List.map_toArray, List.map_cons, List.map_nil]); first | done | rfl | (simp only [List.length_drop, List.length_take]; rfl)) ?_; (with_reducible refine (dunnageref01_half.calls a0 false t103 _ A5.out).mono ?_); rintro e w' ⟨rfl, ⟨nd, rfl⟩⟩; refine ⟨_, rfl, ?_⟩) | ((with_reducible refine gate_callee (f := 118) rfl ?_); refine goesL_ (some 18) rfl rfl Try.func118 (by kernel_rfl) rfl #[.int .u64 a1, .bool true] rfl (by (try simp only [List.map_toArray, List.map_cons, List.map_nil]); first | done | rfl | (simp only [List.length_drop, List.length_take]; rfl)) ?_; (with_reducible refine (dunnageref01_half.calls a1 true t104 _ A6.out).mono ?_); rintro e w' ⟨rfl, ⟨nd, rfl⟩⟩; refine ⟨_, rfl, ?_⟩))
  (try simp only [Act.put, List.setIfInBounds_toArray, List.set_cons_zero, List.set_cons_succ])
  go_cut [27] (fun v27 wc => ∃ (kq : Nat) (x27_6 : Bool), v27 = .bool x27_6 ∧ Aside0 (dunnageref01_times.j0 kq a0 a1 (IntKind.u64.wrap (t101 * t102)) (IntKind.u64.wrap (t103 * t104)) x27_6 = some (r1, r2)) ∧ Aside0 (kq ≤ k) ∧ Drawn0 w wc)
  case first =>
    have H := HC7.out
    clear HC7
    replace H := Option.bind_eq_some_iff.mp H
    obtain ⟨t105, A80, H⟩ := H
    replace H : (if t105 > 0 then ((dunnageref01_half.f a1 true).bind fun t106 => (dunnageref01_times.j0 k a0 a1 (IntKind.u64.wrap (t101 * t102)) (IntKind.u64.wrap (t103 * t104)) (decide (t106 > 0)))) else (dunnageref01_times.j0 k a0 a1 (IntKind.u64.wrap (t101 * t102)) (IntKind.u64.wrap (t103 * t104)) false)) = some (r1, r2) := H
    have A8 := Aside0.mk A80
    clear A80
    by_cases c9 : t105 > 0
    · rw [if_pos c9] at H
      have c9b0 : decide (0 < t105) = true := decide_eq_true c9
      clear c9
      (first | rw [c9b0] | (simp only [i64_w, i32_w]; rw [c9b0]) | skip)
      replace H := Option.bind_eq_some_iff.mp H
      obtain ⟨t106, A100, H⟩ := H
      replace H : (dunnageref01_times.j0 k a0 a1 (IntKind.u64.wrap (t101 * t102)) (IntKind.u64.wrap (t103 * t104)) (decide (t106 > 0))) = some (r1, r2) := H
      have A10 := Aside0.mk A100
      clear A100
      have H' := Aside0.mk H
      clear H
      go_wp2_with (first | ((with_reducible refine gate_callee (f := 118) rfl ?_); refine goesL_ (some 21) rfl rfl Try.func118 (by kernel_rfl) rfl #[.int .u64 a0, .bool true] rfl (by (try simp only [List.map_toArray, List.map_cons, List.map_nil]); first | done | rfl | (simp only [List.length_drop, List.length_take]; rfl)) ?_; (with_reducible refine (dunnageref01_half.calls a0 true t105 _ A8.out).mono ?_); rintro e w' ⟨rfl, ⟨nd, rfl⟩⟩; refine ⟨_, rfl, ?_⟩) | (go_at_call 118; (with_reducible refine (dunnageref01_half.calls a1 true t106 _ A10.out).mono ?_); rintro e w' ⟨rfl, ⟨nd, rfl⟩⟩))
      go_meet
      case rel => exact ⟨_, (decide (t106 > 0)), (by first | rfl | (simp; done) | (simp [*]; done)), H', ⟨by first | omega | exact Nat.le_refl _⟩, by repeat (first | exact Drawn0.refl _ | apply Drawn0.step)⟩
    · rw [if_neg c9] at H
      have c9b0 : decide (0 < t105) = false := decide_eq_false c9
      clear c9
      (first | rw [c9b0] | (simp only [i64_w, i32_w]; rw [c9b0]) | skip)
      have H' := Aside0.mk H
      clear H
      go_wp2_with (first | ((with_reducible refine gate_callee (f := 118) rfl ?_); refine goesL_ (some 21) rfl rfl Try.func118 (by kernel_rfl) rfl #[.int .u64 a0, .bool true] rfl (by (try simp only [List.map_toArray, List.map_cons, List.map_nil]); first | done | rfl | (simp only [List.length_drop, List.length_take]; rfl)) ?_; (with_reducible refine (dunnageref01_half.calls a0 true t105 _ A8.out).mono ?_); rintro e w' ⟨rfl, ⟨nd, rfl⟩⟩; refine ⟨_, rfl, ?_⟩))
      go_meet
      case rel => exact ⟨_, (false), (by first | rfl | (simp; done) | (simp [*]; done)), H', ⟨by first | omega | exact Nat.le_refl _⟩, by repeat (first | exact Drawn0.refl _ | apply Drawn0.step)⟩
  case rest =>
    clear HC7
    try clear c1
    try clear p2
    try clear c8
    try clear c9
    try clear c9b0
    obtain ⟨kq, x27_6, rfl, HA, HJ6, ⟨mc6, rfl⟩⟩ := hcut
    cases kq with
    | zero => exact absurd HA.out (by simp [dunnageref01_times.j0])
    | succ kj6 =>
      have H := HA.out
      clear HA
      simp only [dunnageref01_times.j0] at H
      by_cases c11 : x27_6 = true
      · subst c11
        have H1 : (some (0, false)) = some (r1, r2) := by rw [if_pos rfl] at H; exact H
        clear H
        have H := H1
        clear H1
        simp only [Option.some.injEq, Prod.mk.injEq] at H
        obtain ⟨rfl, rfl⟩ := H
        go_wp2
        go_ret2
        exact ⟨by first | rfl | (simp; done) | (simp [*]; done), by repeat (first | exact Drawn0.refl _ | apply Drawn0.step)⟩
      · replace c11 := Bool.eq_false_iff.mpr c11
        subst c11
        have H1 : ((dunnageref01_one.f (IntKind.u64.wrap (t101 * t102)) (IntKind.u64.wrap (t103 * t104))).bind fun bt107 => (if bt107.2 = true then (dunnageref01_times.j1 kj6 a0 a1 bt107.1 (decide (bt107.1 ≥ 4294967296))) else (dunnageref01_times.j1 kj6 a0 a1 bt107.1 true))) = some (r1, r2) := by rw [if_neg (show ¬ (false = true) by decide)] at H; exact H
        clear H
        have H := H1
        clear H1
        replace H := Option.bind_eq_some_iff.mp H
        obtain ⟨⟨t107, t108⟩, A120, H⟩ := H
        replace H : (if t108 = true then (dunnageref01_times.j1 kj6 a0 a1 t107 (decide (t107 ≥ 4294967296))) else (dunnageref01_times.j1 kj6 a0 a1 t107 true)) = some (r1, r2) := H
        have A12 := Aside0.mk A120
        clear A120
        have HC13 := Aside0.mk H
        clear H
        go_upto_region 6 with (first | ((with_reducible refine gate_callee (f := 79) rfl ?_); refine goesL_ (some 31) rfl rfl Try.func79 (by kernel_rfl) rfl #[.int .u64 (IntKind.u64.wrap (t101 * t102)), .int .u64 (IntKind.u64.wrap (t103 * t104))] rfl (by (try simp only [List.map_toArray, List.map_cons, List.map_nil]); first | done | rfl | (simp only [List.length_drop, List.length_take]; rfl)) ?_; (with_reducible refine (dunnageref01_one.calls (IntKind.u64.wrap (t101 * t102)) (IntKind.u64.wrap (t103 * t104)) t107 t108 _ A12.out).mono ?_); rintro e w' ⟨rfl, ⟨nd, rfl⟩⟩; refine ⟨_, rfl, ?_⟩))
        (try simp only [Act.put, List.setIfInBounds_toArray, List.set_cons_zero, List.set_cons_succ])
        go_cut [39] (fun v39 wc => ∃ (kq : Nat) (x39_12 : Bool), v39 = .bool x39_12 ∧ Aside0 (dunnageref01_times.j1 kq a0 a1 t107 x39_12 = some (r1, r2)) ∧ Aside0 (kq ≤ kj6) ∧ Drawn0 w wc)
        case first =>
          have H := HC13.out
          clear HC13
          by_cases c14 : t108 = true
          · subst c14
            have H1 : (dunnageref01_times.j1 kj6 a0 a1 t107 (decide (t107 ≥ 4294967296))) = some (r1, r2) := by rw [if_pos rfl] at H; exact H
            clear H
            have H := H1
            clear H1
            have H' := Aside0.mk H
            clear H
            go_wp2
            go_meet
            case rel => exact ⟨_, (decide (t107 ≥ 4294967296)), (by first | rfl | (simp; done) | (simp [*]; done)), H', ⟨by have := HJ6.out; first | omega | exact Nat.le_refl _⟩, by repeat (first | exact Drawn0.refl _ | apply Drawn0.step)⟩
          · replace c14 := Bool.eq_false_iff.mpr c14
            subst c14
            have H1 : (dunnageref01_times.j1 kj6 a0 a1 t107 true) = some (r1, r2) := by rw [if_neg (show ¬ (false = true) by decide)] at H; exact H
            clear H
            have H := H1
            clear H1
            have H' := Aside0.mk H
            clear H
            go_wp2
            go_meet
            case rel => exact ⟨_, (true), (by first | rfl | (simp; done) | (simp [*]; done)), H', ⟨by have := HJ6.out; first | omega | exact Nat.le_refl _⟩, by repeat (first | exact Drawn0.refl _ | apply Drawn0.step)⟩
        case rest =>
          clear HC13
          try clear c1
          try clear p2
          try clear c6
          try clear c7
          try clear c8
          try clear c9
          try clear c9b0
          try clear c11
          try clear c14
          try clear p2
          obtain ⟨kq, x39_12, rfl, HA, HJ12, ⟨mc12, rfl⟩⟩ := hcut
          cases kq with
          | zero => exact absurd HA.out (by simp [dunnageref01_times.j1])
          | succ kj12 =>
            have H := HA.out
            clear HA
            simp only [dunnageref01_times.j1] at H
            by_cases c15 : x39_12 = true
            · subst c15
              have H1 : (some (0, false)) = some (r1, r2) := by rw [if_pos rfl] at H; exact H
              clear H
              have H := H1
              clear H1
              simp only [Option.some.injEq, Prod.mk.injEq] at H
              obtain ⟨rfl, rfl⟩ := H
              go_wp2
              go_ret2
              exact ⟨by first | rfl | (simp; done) | (simp [*]; done), by repeat (first | exact Drawn0.refl _ | apply Drawn0.step)⟩
            · replace c15 := Bool.eq_false_iff.mpr c15
              subst c15
              have H1 : ((dunnageref01_half.f a0 false).bind fun t109 => ((dunnageref01_half.f a1 false).bind fun t110 => ((dunnageref01_one.f (IntKind.u64.wrap (t107 * 4294967296)) (IntKind.u64.wrap (t109 * t110))).bind fun bt111 => (some (bt111.1, bt111.2))))) = some (r1, r2) := by rw [if_neg (show ¬ (false = true) by decide)] at H; exact H
              clear H
              have H := H1
              clear H1
              replace H := Option.bind_eq_some_iff.mp H
              obtain ⟨t109, A160, H⟩ := H
              replace H : ((dunnageref01_half.f a1 false).bind fun t110 => ((dunnageref01_one.f (IntKind.u64.wrap (t107 * 4294967296)) (IntKind.u64.wrap (t109 * t110))).bind fun bt111 => (some (bt111.1, bt111.2)))) = some (r1, r2) := H
              have A16 := Aside0.mk A160
              clear A160
              replace H := Option.bind_eq_some_iff.mp H
              obtain ⟨t110, A170, H⟩ := H
              replace H : ((dunnageref01_one.f (IntKind.u64.wrap (t107 * 4294967296)) (IntKind.u64.wrap (t109 * t110))).bind fun bt111 => (some (bt111.1, bt111.2))) = some (r1, r2) := H
              have A17 := Aside0.mk A170
              clear A170
              replace H := Option.bind_eq_some_iff.mp H
              obtain ⟨⟨t111, t112⟩, A180, H⟩ := H
              replace H : (some (t111, t112)) = some (r1, r2) := H
              have A18 := Aside0.mk A180
              clear A180
              simp only [Option.some.injEq, Prod.mk.injEq] at H
              obtain ⟨rfl, rfl⟩ := H
              go_wp2_with (first | ((with_reducible refine gate_callee (f := 118) rfl ?_); refine goesL_ (some 43) rfl rfl Try.func118 (by kernel_rfl) rfl #[.int .u64 a0, .bool false] rfl (by (try simp only [List.map_toArray, List.map_cons, List.map_nil]); first | done | rfl | (simp only [List.length_drop, List.length_take]; rfl)) ?_; (with_reducible refine (dunnageref01_half.calls a0 false t109 _ A16.out).mono ?_); rintro e w' ⟨rfl, ⟨nd, rfl⟩⟩; refine ⟨_, rfl, ?_⟩) | ((with_reducible refine gate_callee (f := 118) rfl ?_); refine goesL_ (some 45) rfl rfl Try.func118 (by kernel_rfl) rfl #[.int .u64 a1, .bool false] rfl (by (try simp only [List.map_toArray, List.map_cons, List.map_nil]); first | done | rfl | (simp only [List.length_drop, List.length_take]; rfl)) ?_; (with_reducible refine (dunnageref01_half.calls a1 false t110 _ A17.out).mono ?_); rintro e w' ⟨rfl, ⟨nd, rfl⟩⟩; refine ⟨_, rfl, ?_⟩) | ((with_reducible refine gate_callee (f := 79) rfl ?_); refine goesL_ (some 47) rfl rfl Try.func79 (by kernel_rfl) rfl #[.int .u64 (IntKind.u64.wrap (t107 * 4294967296)), .int .u64 (IntKind.u64.wrap (t109 * t110))] rfl (by (try simp only [List.map_toArray, List.map_cons, List.map_nil]); first | done | rfl | (simp only [List.length_drop, List.length_take]; rfl)) ?_; (with_reducible refine (dunnageref01_one.calls (IntKind.u64.wrap (t107 * 4294967296)) (IntKind.u64.wrap (t109 * t110)) t111 t112 _ A18.out).mono ?_); rintro e w' ⟨rfl, ⟨nd, rfl⟩⟩; refine ⟨_, rfl, ?_⟩))
              go_ret2
              exact ⟨by first | rfl | (simp; done) | (simp [*]; done), by repeat (first | exact Drawn0.refl _ | apply Drawn0.step)⟩

end Go.Proofs.Ytppfkbigeknedaa.Q
