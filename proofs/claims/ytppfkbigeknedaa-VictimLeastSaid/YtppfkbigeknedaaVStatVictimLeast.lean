/- The pure statement of the law VictimLeast (by this session's program). -/
import Derived.Test.YtppfkbigeknedaaVOpen
import Derived.Test.YtppfkbigeknedaaVQdunnagelaw15VictimLeast
namespace Go.Proofs.Ytppfkbigeknedaa.Q
def dunnagelaw15_VictimLeast.Pure : Prop := ∀ (x0 : S96) (x1 : S99) (x2 : S26) (x3 : Int) (x4 : Int), ok96 x0 → ok99 x1 → ok26 x2 → (okI .i64) x3 → (okI .i64) x4 → ∃ k, dunnagelaw15_VictimLeast.f k x0.f0 x0.f1 x0.f2 x1.f0 x1.f1 x1.f2 x2.f0 x2.f1 x2.f2 x3 x4 = some true
end Go.Proofs.Ytppfkbigeknedaa.Q
