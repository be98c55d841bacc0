import Derived.Test.YtppfkbigeknedaaUQ0
import Derived.Test.YtppfkbigeknedaaUQdunnageref01half
namespace Go.Proofs.Ytppfkbigeknedaa.Q
open Go.RowKit Go.Proofs.YtppfkbigeknedaaW.PrintWords Go.Proofs.YtppfkbigeknedaaW.PrintLast Go.Proofs.YtppfkbigeknedaaW.PrintMore
attribute [local go_sem] max2_int min2_int max_two min_two max_three min_three max_four min_four   -- for this text's walks alone
set_option linter.unusedVariables false
set_option linter.unusedSimpArgs false

attribute [local go_sem] eqe_ii eqe_nn eqe_ni eqe_nni
def dunnageref01_one.f (a0 : Int) (a1 : Int) : Option (Int × Bool) := (dunnageref01_half.f a0 false).bind fun t101 => ((dunnageref01_half.f a1 false).bind fun t102 => ((dunnageref01_half.f a0 true).bind fun t103 => ((dunnageref01_half.f a1 true).bind fun t104 => (if (IntKind.u64.wrap ((IntKind.u64.wrap (t103 + t104)) + (IntKind.u64.wrap (Int.tdiv (IntKind.u64.wrap (t101 + t102)) 4294967296)))) ≥ 4294967296 then (some (0, false)) else (some (IntKind.u64.wrap ((IntKind.u64.wrap ((IntKind.u64.wrap ((IntKind.u64.wrap (t103 + t104)) + (IntKind.u64.wrap (Int.tdiv (IntKind.u64.wrap (t101 + t102)) 4294967296)))) * 4294967296)) + (Int.tmod (IntKind.u64.wrap (t101 + t102)) 4294967296)), true))))))
set_option maxHeartbeats 8000000 in
set_option maxRecDepth 100000 in
theorem dunnageref01_one.calls (a0 : Int) (a1 : Int) (r1 : Int) (r2 : Bool) (w : World) (h : dunnageref01_one.f a0 a1 = some (r1, r2)) :
    Calls Try.prog 79 #[.int .u64 a0, .int .u64 a1] w fun e w' => e = .returned (.tuple #[.int .u64 r1, .bool r2]) ∧ Drawn0 w w' := by
  have H : ((dunnageref01_half.f a0 false).bind fun t101 => ((dunnageref01_half.f a1 false).bind fun t102 => ((dunnageref01_half.f a0 true).bind fun t103 => ((dunnageref01_half.f a1 true).bind fun t104 => (if (IntKind.u64.wrap ((IntKind.u64.wrap (t103 + t104)) + (IntKind.u64.wrap (Int.tdiv (IntKind.u64.wrap (t101 + t102)) 4294967296)))) ≥ 4294967296 then (some (0, false)) else (some (IntKind.u64.wrap ((IntKind.u64.wrap ((IntKind.u64.wrap ((IntKind.u64.wrap (t103 + t104)) + (IntKind.u64.wrap (Int.tdiv (IntKind.u64.wrap (t101 + t102)) 4294967296)))) * 4294967296)) + (Int.tmod (IntKind.u64.wrap (t101 + t102)) 4294967296)), true))))))) = some (r1, r2) := h
  clear h
  replace H := Option.bind_eq_some_iff.mp H
  obtain ⟨t101, A30, H⟩ := H
  replace H : ((dunnageref01_half.f a1 false).bind fun t102 => ((dunnageref01_half.f a0 true).bind fun t103 => ((dunnageref01_half.f a1 true).bind fun t104 => (if (IntKind.u64.wrap ((IntKind.u64.wrap (t103 + t104)) + (IntKind.u64.wrap (Int.tdiv (IntKind.u64.wrap (t101 + t102)) 4294967296)))) ≥ 4294967296 then (some (0, false)) else (some (IntKind.u64.wrap ((IntKind.u64.wrap ((IntKind.u64.wrap ((IntKind.u64.wrap (t103 + t104)) + (IntKind.u64.wrap (Int.tdiv (IntKind.u64.wrap (t101 + t102)) 4294967296)))) * 4294967296)) + (Int.tmod (IntKind.u64.wrap (t101 + t102)) 4294967296)), true)))))) = some (r1, r2) := H
  have A3 := Aside0.mk A30
  clear A30
  replace H := Option.bind_eq_some_iff.mp H
  obtain ⟨t102, A40, H⟩ := H
  replace H : ((dunnageref01_half.f a0 true).bind fun t103 => ((dunnageref01_half.f a1 true).bind fun t104 => (if (IntKind.u64.wrap ((IntKind.u64.wrap (t103 + t104)) + (IntKind.u64.wrap (Int.tdiv (IntKind.u64.wrap (t101 + t102)) 4294967296)))) ≥ 4294967296 then (some (0, false)) else (some (IntKind.u64.wrap ((IntKind.u64.wrap ((IntKind.u64.wrap ((IntKind.u64.wrap (t103 + t104)) + (IntKind.u64.wrap (Int.tdiv (IntKind.u64.wrap (t101 + t102)) 4294967296)))) * 4294967296)) + (Int.tmod (IntKind.u64.wrap (t101 + t102)) 4294967296)), true))))) = some (r1, r2) := H
  have A4 := Aside0.mk A40
  clear A40
  replace H := Option.bind_eq_some_iff.mp H
  obtain ⟨t103, A50, H⟩ := H
  replace H : ((dunnageref01_half.f a1 true).bind fun t104 => (if (IntKind.u64.wrap ((IntKind.u64.wrap (t103 + t104)) + (IntKind.u64.wrap (Int.tdiv (IntKind.u64.wrap (t101 + t102)) 4294967296)))) ≥ 4294967296 then (some (0, false)) else (some (IntKind.u64.wrap ((IntKind.u64.wrap ((IntKind.u64.wrap ((IntKind.u64.wrap (t103 + t104)) + (IntKind.u64.wrap (Int.tdiv (IntKind.u64.wrap (t101 + t102)) 4294967296)))) * 4294967296)) + (Int.tmod (IntKind.u64.wrap (t101 + t102)) 4294967296)), true)))) = some (r1, r2) := H
  have A5 := Aside0.mk A50
  clear A50
  replace H := Option.bind_eq_some_iff.mp H
  obtain ⟨t104, A60, H⟩ := H
  replace H : (if (IntKind.u64.wrap ((IntKind.u64.wrap (t103 + t104)) + (IntKind.u64.wrap (Int.tdiv (IntKind.u64.wrap (t101 + t102)) 4294967296)))) ≥ 4294967296 then (some (0, false)) else (some (IntKind.u64.wrap ((IntKind.u64.wrap ((IntKind.u64.wrap ((IntKind.u64.wrap (t103 + t104)) + (IntKind.u64.wrap (Int.tdiv (IntKind.u64.wrap (t101 + t102)) 4294967296)))) * 4294967296)) + (Int.tmod (IntKind.u64.wrap (t101 + t102)) 4294967296)), true))) = some (r1, r2) := H
  have A6 := Aside0.mk A60
  clear A60
  by_cases c7 : (IntKind.u64.wrap ((IntKind.u64.wrap (t103 + t104)) + (IntKind.u64.wrap (Int.tdiv (IntKind.u64.wrap (t101 + t102)) 4294967296)))) ≥ 4294967296
  · rw [if_pos c7] at H
    have c7b0 : decide (4294967296 ≤ (IntKind.u64.wrap ((IntKind.u64.wrap (t103 + t104)) + (IntKind.u64.wrap (Int.tdiv (IntKind.u64.wrap (t101 + t102)) 4294967296))))) = true := decide_eq_true c7
    clear c7
    simp only [Option.some.injEq, Prod.mk.injEq] at H
    obtain ⟨rfl, rfl⟩ := H
    go_enter Try.func79, Try.ntmps79
    go_wp2_with (first | ((with_reducible refine gate_callee (f := 118) rfl ?_); refine goesL_ (some 9) rfl rfl Try.func118 (by kernel_rfl) rfl #[.int .u64 a0, .bool false] rfl (by (try simp only [List.map_toArray, List.map_cons, List.map_nil]); first | done | rfl | (simp only [List.length_drop, List.length_take]; rfl)) ?_; (with_reducible refine (dunnageref01_half.calls a0 false t101 _ A3.out).mono ?_); rintro e w' ⟨rfl, ⟨nd, rfl⟩⟩; refine ⟨_, rfl, ?_⟩) | ((with_reducible refine gate_callee (f := 118) rfl ?_); refine goesL_ (some 11) rfl rfl Try.func118 (by kernel_rfl) rfl #[.int .u64 a1, .bool false] rfl (by (try simp only [List.map_toArray, List.map_cons, List.map_nil]); first | done | rfl | (simp only [List.length_drop, List.length_take]; rfl)) ?_; (with_reducible refine (dunnageref01_half.calls a1 false t102 _ A4.out).mono ?_); rintro e w' ⟨rfl, ⟨nd, rfl⟩⟩; refine ⟨_, rfl, ?_⟩) | ((with_reducible refine gate_callee (f := 118) rfl ?_); refine goesL_ (some 14) rfl rfl Try.func118 (by kernel_rfl) rfl #[.int .u64 a0, .bool true] rfl (by (try simp only [List.map_toArray, List.map_cons, List.map_nil]); first | done | rfl | (simp only [List.length_drop, List.length_take]; rfl)) ?_; (with_reducible refine (dunnageref01_half.calls a0 true t103 _ A5.out).mono ?_); rintro e w' ⟨rfl, ⟨nd, rfl⟩⟩; refine ⟨_, rfl, ?_⟩) | ((with_reducible refine gate_callee (f := 118) rfl ?_); refine goesL_ (some 16) rfl rfl Try.func118 (by kernel_rfl) rfl #[.int .u64 a1, .bool true] rfl (by (try simp only [List.map_toArray, List.map_cons, List.map_nil]); first | done | rfl | (simp only [List.length_drop, List.length_take]; rfl)) ?_; (with_reducible refine (dunnageref01_half.calls a1 true t104 _ A6.out).mono ?_); rintro e w' ⟨rfl, ⟨nd, rfl⟩⟩; refine ⟨_, rfl, ?_⟩))
    go_ret2
    exact ⟨by first | rfl | (simp; done) | (simp [*]; done), by repeat (first | exact Drawn0.refl _ | apply Drawn0.step)⟩
  · rw [if_neg c7] at H
    have c7b0 : decide (4294967296 ≤ (IntKind.u64.wrap ((IntKind.u64.wrap (t103 + t104)) + (IntKind.u64.wrap (Int.tdiv (IntKind.u64.wrap (t101 + t102)) 4294967296))))) = false := decide_eq_false c7
    clear c7
    simp only [Option.some.injEq, Prod.mk.injEq] at H
    obtain ⟨rfl, rfl⟩ := H
    go_enter Try.func79, Try.ntmps79
    go_wp2_with (first | ((with_reducible refine gate_callee (f := 118) rfl ?_); refine goesL_ (some 9) rfl rfl Try.func118 (by kernel_rfl) rfl #[.int .u64 a0, .bool false] rfl (by (try simp only [List.map_toArray, List.map_cons, List.map_nil]); first | done | rfl | (simp only [List.length_drop, List.length_take]; rfl)) ?_; (with_reducible refine (dunnageref01_half.calls a0 false t101 _ A3.out).mono ?_); rintro e w' ⟨rfl, ⟨nd, rfl⟩⟩; refine ⟨_, rfl, ?_⟩) | ((with_reducible refine gate_callee (f := 118) rfl ?_); refine goesL_ (some 11) rfl rfl Try.func118 (by kernel_rfl) rfl #[.int .u64 a1, .bool false] rfl (by (try simp only [List.map_toArray, List.map_cons, List.map_nil]); first | done | rfl | (simp only [List.length_drop, List.length_take]; rfl)) ?_; (with_reducible refine (dunnageref01_half.calls a1 false t102 _ A4.out).mono ?_); rintro e w' ⟨rfl, ⟨nd, rfl⟩⟩; refine ⟨_, rfl, ?_⟩) | ((with_reducible refine gate_callee (f := 118) rfl ?_); refine goesL_ (some 14) rfl rfl Try.func118 (by kernel_rfl) rfl #[.int .u64 a0, .bool true] rfl (by (try simp only [List.map_toArray, List.map_cons, List.map_nil]); first | done | rfl | (simp only [List.length_drop, List.length_take]; rfl)) ?_; (with_reducible refine (dunnageref01_half.calls a0 true t103 _ A5.out).mono ?_); rintro e w' ⟨rfl, ⟨nd, rfl⟩⟩; refine ⟨_, rfl, ?_⟩) | ((with_reducible refine gate_callee (f := 118) rfl ?_); refine goesL_ (some 16) rfl rfl Try.func118 (by kernel_rfl) rfl #[.int .u64 a1, .bool true] rfl (by (try simp only [List.map_toArray, List.map_cons, List.map_nil]); first | done | rfl | (simp only [List.length_drop, List.length_take]; rfl)) ?_; (with_reducible refine (dunnageref01_half.calls a1 true t104 _ A6.out).mono ?_); rintro e w' ⟨rfl, ⟨nd, rfl⟩⟩; refine ⟨_, rfl, ?_⟩))
    go_ret2
    exact ⟨by first | rfl | (simp; done) | (simp [*]; done), by repeat (first | exact Drawn0.refl _ | apply Drawn0.step)⟩

end Go.Proofs.Ytppfkbigeknedaa.Q
