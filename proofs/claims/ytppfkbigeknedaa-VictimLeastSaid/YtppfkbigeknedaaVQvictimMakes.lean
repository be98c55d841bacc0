import Derived.Test.YtppfkbigeknedaaVQ0
import Derived.Test.YtppfkbigeknedaaVMakes
namespace Go.Proofs.Ytppfkbigeknedaa.Q
open Go.RowKit Go.Proofs.YtppfkbigeknedaaW.PrintWords Go.Proofs.YtppfkbigeknedaaW.PrintLast Go.Proofs.YtppfkbigeknedaaW.PrintMore
attribute [local go_sem] max2_int min2_int max_two min_two max_three min_three max_four min_four   -- for this text's walks alone
set_option linter.unusedVariables false
set_option linter.unusedSimpArgs false

attribute [local go_sem] eqe_ii eqe_nn eqe_ni eqe_nni
def victim_Makes.f (k : Nat) (l0_0 : List (S150)) (l0_1 : List (S260)) (l0_2 : List (S70)) (l1_0 : List (S185)) (a1_1 : Int) (a1_2 : Int) (l2_0 : List (S70)) (a2_1 : Int) (a2_2 : Int) (a3 : Int) (a4 : Int) (l5 : List (Int)) : Option (Bool) := makesF k l0_0 l0_1 l0_2 l1_0 a1_1 a1_2 l2_0 a2_1 a2_2 a3 a4 l5
theorem victim_Makes.mono : ∀ a0 a1 a2 a3 a4 a5 a6 a7 a8 a9 a10 a11 k, LeO (victim_Makes.f k a0 a1 a2 a3 a4 a5 a6 a7 a8 a9 a10 a11) (victim_Makes.f (k + 1) a0 a1 a2 a3 a4 a5 a6 a7 a8 a9 a10 a11) := fun a0 a1 a2 a3 a4 a5 a6 a7 a8 a9 a10 a11 k => makes_mono k a0 a1 a2 a3 a4 a5 a6 a7 a8 a9 a10 a11
theorem victim_Makes.calls (k : Nat) (A0_0 : Option Addr) (c0_0 : Nat) (l0_0 : List (S150)) (A0_1 : Option Addr) (c0_1 : Nat) (l0_1 : List (S260)) (A0_2 : Option Addr) (c0_2 : Nat) (l0_2 : List (S70)) (A1_0 : Option Addr) (c1_0 : Nat) (l1_0 : List (S185)) (a1_1 : Int) (a1_2 : Int) (A2_0 : Option Addr) (c2_0 : Nat) (l2_0 : List (S70)) (a2_1 : Int) (a2_2 : Int) (a3 : Int) (a4 : Int) (A5 : Option Addr) (c5 : Nat) (l5 : List (Int)) (r : Bool) (w : World)
    (hr0_0 : Kd.C k150 w A0_0 l0_0.length l0_0) (hc0_0 : l0_0.length ≤ c0_0) (hr0_1 : Kd.C k260 w A0_1 l0_1.length l0_1) (hc0_1 : l0_1.length ≤ c0_1) (hr0_2 : Kd.C k70 w A0_2 l0_2.length l0_2) (hc0_2 : l0_2.length ≤ c0_2) (hr1_0 : Kd.C k185 w A1_0 l1_0.length l1_0) (hc1_0 : l1_0.length ≤ c1_0) (hr2_0 : Kd.C k70 w A2_0 l2_0.length l2_0) (hc2_0 : l2_0.length ≤ c2_0) (hr5 : Kd.C (Kd.int .i64) w A5 l5.length l5) (hc5 : l5.length ≤ c5)
    (h : victim_Makes.f k l0_0 l0_1 l0_2 l1_0 a1_1 a1_2 l2_0 a2_1 a2_2 a3 a4 l5 = some r) :
    Calls Try.prog 62 #[.agg #[.slice A0_0 l0_0.length c0_0, .slice A0_1 l0_1.length c0_1, .slice A0_2 l0_2.length c0_2], .agg #[.slice A1_0 l1_0.length c1_0, .int .i64 a1_1, .int .i64 a1_2], .agg #[.slice A2_0 l2_0.length c2_0, .int .i64 a2_1, .int .i64 a2_2], .int .i64 a3, .int .i64 a4, .slice A5 l5.length c5] w fun e w' => e = .returned (.bool r) ∧ Below w.heap.size w w' := makes_calls k A0_0 c0_0 l0_0 A0_1 c0_1 l0_1 A0_2 c0_2 l0_2 A1_0 c1_0 l1_0 a1_1 a1_2 A2_0 c2_0 l2_0 a2_1 a2_2 a3 a4 A5 c5 l5 r w hr0_0 hc0_0 hr0_1 hc0_1 hr0_2 hc0_2 hr1_0 hc1_0 hr2_0 hc2_0 hr5 hc5 h

end Go.Proofs.Ytppfkbigeknedaa.Q
