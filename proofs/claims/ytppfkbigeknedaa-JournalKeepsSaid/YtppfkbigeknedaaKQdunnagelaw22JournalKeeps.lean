/- The walk of JournalKeeps, by hand: the ways together. -/
import Derived.Test.YtppfkbigeknedaaKKeepsA
import Derived.Test.YtppfkbigeknedaaKKSB
namespace Go.Proofs.Ytppfkbigeknedaa.Q
open Go.RowKit Go.Proofs.YtppfkbigeknedaaW.PrintWords Go.Proofs.YtppfkbigeknedaaW.PrintLast Go.Proofs.YtppfkbigeknedaaW.PrintMore
set_option linter.unusedVariables false
set_option linter.unusedSimpArgs false
def dunnagelaw22_JournalKeeps.f (a0 : Int) (l1 : List S60) (ea eb : Int) (m : List S130) (n : Int) : Option Bool := some true
theorem dunnagelaw22_JournalKeeps.calls (a0 : Int) (A1 : Option Addr) (c1 : Nat) (l1 : List S60) (ea eb : Int) (A2 : Option Addr) (c2 : Nat) (m : List S130) (n : Int) (r : Bool) (w : World) (hr1 : Kd.C k60 w A1 l1.length l1) (hc1 : l1.length ≤ c1) (hr2 : Kd.C k130 w A2 m.length m) (hc2 : m.length ≤ c2) (h : dunnagelaw22_JournalKeeps.f a0 l1 ea eb m n = some r) :
    Calls Try.prog 14 #[.int .i64 a0, .slice A1 l1.length c1, .agg #[.int .i64 ea, .int .i64 eb, .slice A2 m.length c2], .int .i64 n] w fun e w' => e = .returned (.bool r) ∧ Below w.heap.size w w' := by
  obtain rfl := Option.some.inj h
  by_cases g : a0 < 1 ∨ 65536 < a0
  · exact keeps_bad a0 A1 c1 l1 ea eb A2 c2 m n w g
  by_cases g2 : 5000 < a0 ∨ 40 < l1.length ∨ 100 < m.length
  · exact keeps_long a0 A1 c1 l1 ea eb A2 c2 m n w (by omega) (by omega) g2
  · exact keeps_main a0 A1 c1 l1 ea eb A2 c2 m n w (by omega) (by omega) (by omega) (by omega) hr1 hr2 hc2
end Go.Proofs.Ytppfkbigeknedaa.Q
