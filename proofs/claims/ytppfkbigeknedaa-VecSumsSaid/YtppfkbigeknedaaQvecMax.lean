-- written by a program of this session
import Derived.Test.YtppfkbigeknedaaQ0
namespace Go.Proofs.Ytppfkbigeknedaa.Q
open Go.RowKit Go.Proofs.YtppfkbigeknedaaW.PrintWords Go.Proofs.YtppfkbigeknedaaW.PrintLast Go.Proofs.YtppfkbigeknedaaW.PrintMore
attribute [local go_sem] max2_int min2_int max_two min_two max_three min_three max_four min_four   -- for this text's walks alone
set_option linter.unusedVariables false
set_option linter.unusedSimpArgs false

attribute [local go_sem] eqe_ii eqe_nn eqe_ni eqe_nni
/-! ### vec_Max: function 31 -/
def vec_Max.f (a0_0 : Int) (a0_1 : Int) (a0_2 : Int) (a0_3 : Int) (a1_0 : Int) (a1_1 : Int) (a1_2 : Int) (a1_3 : Int) : Option (Int × Int × Int × Int) :=
  some (mx a0_0 a1_0, mx a0_1 a1_1, mx a0_2 a1_2, mx a0_3 a1_3)
set_option maxHeartbeats 8000000 in
set_option maxRecDepth 100000 in
theorem vec_Max.calls (a0_0 : Int) (a0_1 : Int) (a0_2 : Int) (a0_3 : Int) (a1_0 : Int) (a1_1 : Int) (a1_2 : Int) (a1_3 : Int) (r1 r2 r3 r4 : Int) (w : World) (h : vec_Max.f a0_0 a0_1 a0_2 a0_3 a1_0 a1_1 a1_2 a1_3 = some (r1, r2, r3, r4)) :
    Calls Try.prog 31 #[.agg #[.int .u64 a0_0, .int .u64 a0_1, .int .u64 a0_2, .int .u64 a0_3], .agg #[.int .u64 a1_0, .int .u64 a1_1, .int .u64 a1_2, .int .u64 a1_3]] w fun e w' => e = .returned (.agg #[.int .u64 r1, .int .u64 r2, .int .u64 r3, .int .u64 r4]) ∧ Below w.heap.size w w' := by
  obtain ⟨rfl, rfl, rfl, rfl⟩ : mx a0_0 a1_0 = r1 ∧ mx a0_1 a1_1 = r2 ∧ mx a0_2 a1_2 = r3 ∧ mx a0_3 a1_3 = r4 := by simpa [vec_Max.f] using h
  clear h
  go_enter Try.func31, Try.ntmps31
  go_wp2
  refine wp_loop_rounds 5 ?_
  all_goals rw [rounds_succ]
  all_goals go_wp2
  all_goals go_region
  all_goals go_wp2
  all_goals rw [rounds_succ]
  all_goals go_wp2
  all_goals go_region
  all_goals go_wp2
  all_goals rw [rounds_succ]
  all_goals go_wp2
  all_goals go_region
  all_goals go_wp2
  all_goals rw [rounds_succ]
  all_goals go_wp2
  all_goals go_region
  all_goals go_wp2
  all_goals rw [rounds_succ]
  all_goals go_wp2
  all_goals (refine bodyPost_ret (v := .agg #[.int .u64 (mx a0_0 a1_0), .int .u64 (mx a0_1 a1_1), .int .u64 (mx a0_2 a1_2), .int .u64 (mx a0_3 a1_3)]) (by first | (simp [results, Try.results31, go_sem, mx, *]; done) | (simp [results, Try.results31, go_sem, mx, *]; omega)) rfl ⟨rfl, (by repeat (first | (with_reducible first | apply below_alloc | apply pw_below_drewN | apply below_drew1 | exact Below.refl _ _) | (refine below_set ?_ (by omega))))⟩)

end Go.Proofs.Ytppfkbigeknedaa.Q
