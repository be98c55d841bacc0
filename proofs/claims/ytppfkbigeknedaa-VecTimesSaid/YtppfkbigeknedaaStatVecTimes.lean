/- The pure statement of the law VecTimes (by this session's program). -/
import Derived.Test.YtppfkbigeknedaaOpen
import Derived.Test.YtppfkbigeknedaaQdunnagelaw01VecTimes
namespace Go.Proofs.Ytppfkbigeknedaa.Q
def dunnagelaw01_VecTimes.Pure : Prop := ∀ (x0 : S33) (x1 : Int), ok33 x0 → (okI .u64) x1 → dunnagelaw01_VecTimes.f x0.f0 x0.f1 x0.f2 x0.f3 x1 = some true
end Go.Proofs.Ytppfkbigeknedaa.Q
