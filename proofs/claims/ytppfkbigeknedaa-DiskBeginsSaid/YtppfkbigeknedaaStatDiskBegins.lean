/- The pure statement of the law DiskBegins (by this session's program). -/
import Derived.Test.YtppfkbigeknedaaOpen
import Derived.Test.YtppfkbigeknedaaQdunnagelaw21DiskBegins
namespace Go.Proofs.Ytppfkbigeknedaa.Q
def dunnagelaw21_DiskBegins.Pure : Prop := ∀ (x0 : Int) (x1 : List (Int)) (x2 : List (Int)) (x3 : Int), (okI .i64) x0 → (okL (okI .u8)) x1 → (okL (okI .u8)) x2 → (okI .i64) x3 → dunnagelaw21_DiskBegins.f x0 x1 x2 x3 = some true
end Go.Proofs.Ytppfkbigeknedaa.Q
