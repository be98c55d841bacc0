-- written by a program of this session
import Derived.Test.YtppfkbigeknedaaQ0
import Derived.Test.YtppfkbigeknedaaUp22
namespace Go.Proofs.Ytppfkbigeknedaa.Q
open Go.RowKit Go.Proofs.YtppfkbigeknedaaW.PrintWords Go.Proofs.YtppfkbigeknedaaW.PrintLast Go.Proofs.YtppfkbigeknedaaW.PrintMore
attribute [local go_sem] max2_int min2_int max_two min_two max_three min_three max_four min_four   -- for this text's walks alone
set_option linter.unusedVariables false
set_option linter.unusedSimpArgs false

attribute [local go_sem] eqe_ii eqe_nn eqe_ni eqe_nni
/-! ### dunnagelaw22_up: function 42 -/
-- IMPORT Derived.Test.YtppfkbigeknedaaUp22
def dunnagelaw22_up.f : Option Bool := some true
theorem dunnagelaw22_up.calls (r : Bool) (w : World) (h : dunnagelaw22_up.f = some r) :
    Calls Try.prog 42 #[] w fun e w' => e = .returned (.bool r) ∧ Below w.heap.size w w' := by
  obtain rfl := Option.some.inj h
  exact law22_up w

end Go.Proofs.Ytppfkbigeknedaa.Q
