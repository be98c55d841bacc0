/- The pure statement of the law FitTells (by this session's program). -/
import Derived.Test.YtppfkbigeknedaaUOpen
import Derived.Test.YtppfkbigeknedaaUQdunnagelaw14FitTells
namespace Go.Proofs.Ytppfkbigeknedaa.Q
def dunnagelaw14_FitTells.Pure : Prop := ∀ (x0 : S96) (x1 : S26) (x2 : S33) (x3 : S33), ok96 x0 → ok26 x1 → ok33 x2 → ok33 x3 → ∃ k, dunnagelaw14_FitTells.f k x0.f0 x0.f1 x0.f2 x1.f0 x1.f1 x1.f2 x2.f0 x2.f1 x2.f2 x2.f3 x3.f0 x3.f1 x3.f2 x3.f3 = some true
end Go.Proofs.Ytppfkbigeknedaa.Q
