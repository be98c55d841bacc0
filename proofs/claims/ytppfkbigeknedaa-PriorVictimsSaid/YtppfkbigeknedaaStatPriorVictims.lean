/- The pure statement of the law PriorVictims (by this session's program). -/
import Derived.Test.YtppfkbigeknedaaOpen
import Derived.Test.YtppfkbigeknedaaQdunnagelaw10PriorVictims
namespace Go.Proofs.Ytppfkbigeknedaa.Q
def dunnagelaw10_PriorVictims.Pure : Prop := ∀ (x0 : S26) (x1 : Int) (x2 : Int), ok26 x0 → (okI .i64) x1 → (okI .i64) x2 → ∃ k, dunnagelaw10_PriorVictims.f k x0.f0 x0.f1 x0.f2 x1 x2 = some true
end Go.Proofs.Ytppfkbigeknedaa.Q
