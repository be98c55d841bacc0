/- The pure statement of the law KeyLeast (by this session's program). -/
import Derived.Test.YtppfkbigeknedaaOpen
import Derived.Test.YtppfkbigeknedaaQdunnagelaw17KeyLeast
namespace Go.Proofs.Ytppfkbigeknedaa.Q
def dunnagelaw17_KeyLeast.Pure : Prop := ∀ (x0 : List (S26)), (okL ok26) x0 → ∃ k, dunnagelaw17_KeyLeast.f k x0 = some true
end Go.Proofs.Ytppfkbigeknedaa.Q
