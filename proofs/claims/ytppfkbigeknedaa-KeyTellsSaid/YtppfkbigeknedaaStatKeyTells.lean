/- The pure statement of the law KeyTells (by this session's program). -/
import Derived.Test.YtppfkbigeknedaaOpen
import Derived.Test.YtppfkbigeknedaaQdunnagelaw17KeyTells
namespace Go.Proofs.Ytppfkbigeknedaa.Q
def dunnagelaw17_KeyTells.Pure : Prop := ∀ (x0 : List (S26)), (okL ok26) x0 → ∃ k, dunnagelaw17_KeyTells.f k x0 = some true
end Go.Proofs.Ytppfkbigeknedaa.Q
