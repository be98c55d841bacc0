import Derived.Test.YtppfkbigeknedaaKQ0
import Derived.Test.YtppfkbigeknedaaKMoves
namespace Go.Proofs.Ytppfkbigeknedaa.Q
open Go.RowKit Go.Proofs.YtppfkbigeknedaaW.PrintWords Go.Proofs.YtppfkbigeknedaaW.PrintLast Go.Proofs.YtppfkbigeknedaaW.PrintMore
attribute [local go_sem] max2_int min2_int max_two min_two max_three min_three max_four min_four   -- for this text's walks alone
set_option linter.unusedVariables false
set_option linter.unusedSimpArgs false

attribute [local go_sem] eqe_ii eqe_nn eqe_ni eqe_nni
def codec_Moves.f (k : Nat) (l0 : List (S130)) : Option (List Int × Option Int) := movesF k l0
theorem codec_Moves.mono : ∀ a0 k, LeO (codec_Moves.f k a0) (codec_Moves.f (k + 1) a0) := movesF_mono
theorem codec_Moves.calls (k : Nat) (A0 : Option Addr) (c0 : Nat) (l0 : List (S130)) (r1 : List Int) (r2 : Option Int) (w : World) (hr0 : Kd.C k130 w A0 l0.length l0) (hc0 : l0.length ≤ c0) (h : codec_Moves.f k l0 = some (r1, r2)) :
    Calls Try.prog 119 #[.slice A0 l0.length c0] w fun e w' => ∃ v0_ : Value, e = .returned (.tuple #[v0_, errW r2]) ∧ Kd.R (Kd.int .u8) 5 w' w.heap.size (fun _ => True) v0_ r1 ∧ Below w.heap.size w w' :=
  moves_calls k A0 c0 l0 r1 r2 w hr0 hc0 h

end Go.Proofs.Ytppfkbigeknedaa.Q
