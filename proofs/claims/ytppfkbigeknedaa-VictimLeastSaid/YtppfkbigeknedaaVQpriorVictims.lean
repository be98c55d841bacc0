import Derived.Test.YtppfkbigeknedaaVQ0
import Derived.Test.YtppfkbigeknedaaVVictims
namespace Go.Proofs.Ytppfkbigeknedaa.Q
open Go.RowKit Go.Proofs.YtppfkbigeknedaaW.PrintWords Go.Proofs.YtppfkbigeknedaaW.PrintLast Go.Proofs.YtppfkbigeknedaaW.PrintMore
attribute [local go_sem] max2_int min2_int max_two min_two max_three min_three max_four min_four   -- for this text's walks alone
set_option linter.unusedVariables false
set_option linter.unusedSimpArgs false

attribute [local go_sem] eqe_ii eqe_nn eqe_ni eqe_nni
def prior_Victims.f (l0_0 : List (S70)) (a0_1 : Int) (a0_2 : Int) (a1 : Int) (a2 : Int) : Option (List (Int)) := vicF l0_0 a0_1 a0_2 a1 a2
theorem prior_Victims.calls (A0_0 : Option Addr) (c0_0 : Nat) (l0_0 : List (S70)) (a0_1 : Int) (a0_2 : Int) (a1 : Int) (a2 : Int) (r : List (Int)) (w : World) (hr0_0 : Kd.C k70 w A0_0 l0_0.length l0_0) (hc0_0 : l0_0.length ≤ c0_0) (h : prior_Victims.f l0_0 a0_1 a0_2 a1 a2 = some r) :
    Calls Try.prog 48 #[.agg #[.slice A0_0 l0_0.length c0_0, .int .i64 a0_1, .int .i64 a0_2], .int .i64 a1, .int .i64 a2] w fun e w' => ∃ v0_ : Value, e = .returned (v0_) ∧ Kd.R (Kd.int .i64) 3 w' w.heap.size (fun _ => True) v0_ r ∧ Below w.heap.size w w' := vic_calls A0_0 c0_0 l0_0 a0_1 a0_2 a1 a2 r w hr0_0 hc0_0 h

end Go.Proofs.Ytppfkbigeknedaa.Q
