/- The pure statement of the law JournalPlays (by this session's program). -/
import Derived.Test.YtppfkbigeknedaaVOpen
import Derived.Test.YtppfkbigeknedaaVQdunnagelaw22JournalPlays
namespace Go.Proofs.Ytppfkbigeknedaa.Q
def dunnagelaw22_JournalPlays.Pure : Prop := ∀ (x0 : Int) (x1 : List (Int)) (x2 : List (S83)), (okI .i64) x0 → (okL (okI .u8)) x1 → (okL ok83) x2 → dunnagelaw22_JournalPlays.f x0 x1 x2 = some true
end Go.Proofs.Ytppfkbigeknedaa.Q
