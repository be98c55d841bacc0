/- The pure statement of the law JournalKeeps (by this session's program). -/
import Derived.Test.YtppfkbigeknedaaKOpen
import Derived.Test.YtppfkbigeknedaaKQdunnagelaw22JournalKeeps
namespace Go.Proofs.Ytppfkbigeknedaa.Q
def dunnagelaw22_JournalKeeps.Pure : Prop := ∀ (x0 : Int) (x1 : List (S60)) (x2 : S60) (x3 : Int), (okI .i64) x0 → (okL ok60) x1 → ok60 x2 → (okI .i64) x3 → dunnagelaw22_JournalKeeps.f x0 x1 x2.f0 x2.f1 x2.f2 x3 = some true
end Go.Proofs.Ytppfkbigeknedaa.Q
