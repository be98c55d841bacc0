/- The pure statement of the law VecSums (by this session's program). -/
import Derived.Test.YtppfkbigeknedaaOpen
import Derived.Test.YtppfkbigeknedaaQdunnagelaw01VecSums
namespace Go.Proofs.Ytppfkbigeknedaa.Q
def dunnagelaw01_VecSums.Pure : Prop := ∀ (x0 : S33) (x1 : S33), ok33 x0 → ok33 x1 → ∃ k, dunnagelaw01_VecSums.f k x0.f0 x0.f1 x0.f2 x0.f3 x1.f0 x1.f1 x1.f2 x1.f3 = some true
end Go.Proofs.Ytppfkbigeknedaa.Q
