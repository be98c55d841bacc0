import Derived.Test.YtppfkbigeknedaaUWInv
import Derived.Test.YtppfkbigeknedaaUWFootNe
namespace Go.Proofs.YtppfkbigeknedaaW.PrintWords
open Go.RowKit
end Go.Proofs.YtppfkbigeknedaaW.PrintWords
namespace Go.Proofs.YtppfkbigeknedaaW.PrintLast
section
variable {ops : Array Oper} {a : Act} {o og : Oper} {g : Nat} {t : Tmp} {u : Bool}
end
end Go.Proofs.YtppfkbigeknedaaW.PrintLast
