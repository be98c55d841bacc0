import Derived.Test.YtppfkbigeknedaaUQ0
import Derived.Test.YtppfkbigeknedaaURest6
namespace Go.Proofs.Ytppfkbigeknedaa.Q
open Go.RowKit Go.Proofs.YtppfkbigeknedaaW.PrintWords Go.Proofs.YtppfkbigeknedaaW.PrintLast Go.Proofs.YtppfkbigeknedaaW.PrintMore
attribute [local go_sem] max2_int min2_int max_two min_two max_three min_three max_four min_four   -- for this text's walks alone
set_option linter.unusedVariables false
set_option linter.unusedSimpArgs false

attribute [local go_sem] eqe_ii eqe_nn eqe_ni eqe_nni
def dunnageref06_Rest.f (k : Nat) (l0_0 : List (S150)) (l0_1 : List (S260)) (l0_2 : List (S70)) (l1_0 : List (S70)) (a1_1 : Int) (a1_2 : Int) (a2 : Int) : Option (Int × Int × Int × Int × Int) := rest6F k l0_0 l0_1 l0_2 l1_0 a1_1 a1_2 a2
theorem dunnageref06_Rest.mono : ∀ a0 a1 a2 a3 a4 a5 a6 k, LeO (dunnageref06_Rest.f k a0 a1 a2 a3 a4 a5 a6) (dunnageref06_Rest.f (k + 1) a0 a1 a2 a3 a4 a5 a6) := rest6_mono
theorem dunnageref06_Rest.calls (k : Nat) (A0_0 : Option Addr) (c0_0 : Nat) (l0_0 : List (S150)) (A0_1 : Option Addr) (c0_1 : Nat) (l0_1 : List (S260)) (A0_2 : Option Addr) (c0_2 : Nat) (l0_2 : List (S70)) (A1_0 : Option Addr) (c1_0 : Nat) (l1_0 : List (S70)) (a1_1 : Int) (a1_2 : Int) (a2 : Int) (r1 : Int) (r2 : Int) (r3 : Int) (r4 : Int) (r5 : Int) (w : World) (hr0_0 : Kd.C k150 w A0_0 l0_0.length l0_0) (hc0_0 : l0_0.length ≤ c0_0) (hr0_1 : Kd.C k260 w A0_1 l0_1.length l0_1) (hc0_1 : l0_1.length ≤ c0_1) (hr0_2 : Kd.C k70 w A0_2 l0_2.length l0_2) (hc0_2 : l0_2.length ≤ c0_2) (hr1_0 : Kd.C k70 w A1_0 l1_0.length l1_0) (hc1_0 : l1_0.length ≤ c1_0) (h : dunnageref06_Rest.f k l0_0 l0_1 l0_2 l1_0 a1_1 a1_2 a2 = some (r1, r2, r3, r4, r5)) :
    Calls Try.prog 134 #[.agg #[.slice A0_0 l0_0.length c0_0, .slice A0_1 l0_1.length c0_1, .slice A0_2 l0_2.length c0_2], .agg #[.slice A1_0 l1_0.length c1_0, .int .i64 a1_1, .int .i64 a1_2], .int .i64 a2] w fun e w' => e = .returned (.tuple #[.agg #[.int .u64 r1, .int .u64 r2, .int .u64 r3, .int .u64 r4], .int .i64 r5]) ∧ Below w.heap.size w w' := rest6_calls k A0_0 c0_0 l0_0 A0_1 c0_1 l0_1 A0_2 c0_2 l0_2 A1_0 c1_0 l1_0 a1_1 a1_2 a2 r1 r2 r3 r4 r5 w hr0_0 hc0_0 hr0_1 hc0_1 hr0_2 hc0_2 hr1_0 hc1_0 h

end Go.Proofs.Ytppfkbigeknedaa.Q
