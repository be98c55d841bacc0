/- The pure statement of the law JournalWrites (by this session's program). -/
import Derived.Test.YtppfkbigeknedaaOpen
import Derived.Test.YtppfkbigeknedaaQdunnagelaw22JournalWrites
namespace Go.Proofs.Ytppfkbigeknedaa.Q
def dunnagelaw22_JournalWrites.Pure : Prop := ∀ (x0 : S60), ok60 x0 → ∃ k, dunnagelaw22_JournalWrites.f k x0.f0 x0.f1 x0.f2 = some true
end Go.Proofs.Ytppfkbigeknedaa.Q
