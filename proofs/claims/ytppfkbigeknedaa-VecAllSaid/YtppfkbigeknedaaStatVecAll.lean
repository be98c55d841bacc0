/- The pure statement of the law VecAll (by this session's program). -/
import Derived.Test.YtppfkbigeknedaaOpen
import Derived.Test.YtppfkbigeknedaaQdunnagelaw01VecAll
namespace Go.Proofs.Ytppfkbigeknedaa.Q
def dunnagelaw01_VecAll.Pure : Prop := ∀ (x0 : List (S33)), (okL ok33) x0 → ∃ k, dunnagelaw01_VecAll.f k x0 = some true
end Go.Proofs.Ytppfkbigeknedaa.Q
