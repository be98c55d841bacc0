/- The pure statement of the law KeyOne (by this session's program). -/
import Derived.Test.YtppfkbigeknedaaOpen
import Derived.Test.YtppfkbigeknedaaQdunnagelaw17KeyOne
namespace Go.Proofs.Ytppfkbigeknedaa.Q
def dunnagelaw17_KeyOne.Pure : Prop := ∀ (x0 : S26) (x1 : S26), ok26 x0 → ok26 x1 → ∃ k, dunnagelaw17_KeyOne.f k x0.f0 x0.f1 x0.f2 x1.f0 x1.f1 x1.f2 = some true
end Go.Proofs.Ytppfkbigeknedaa.Q
