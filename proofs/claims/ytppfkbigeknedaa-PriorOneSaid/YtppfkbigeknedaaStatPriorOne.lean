/- The pure statement of the law PriorOne (by this session's program). -/
import Derived.Test.YtppfkbigeknedaaOpen
import Derived.Test.YtppfkbigeknedaaQdunnagelaw10PriorOne
namespace Go.Proofs.Ytppfkbigeknedaa.Q
def dunnagelaw10_PriorOne.Pure : Prop := ∀ (x0 : S26) (x1 : Int) (x2 : Int) (x3 : Int), ok26 x0 → (okI .i64) x1 → (okI .i64) x2 → (okI .i64) x3 → dunnagelaw10_PriorOne.f x0.f0 x0.f1 x0.f2 x1 x2 x3 = some true
end Go.Proofs.Ytppfkbigeknedaa.Q
