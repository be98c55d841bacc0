/- JournalKeeps, behind its walk. -/
import Derived.Test.YtppfkbigeknedaaKStatJournalKeeps
namespace Go.Proofs.Ytppfkbigeknedaa.Q
theorem pureJournalKeeps : dunnagelaw22_JournalKeeps.Pure := by
  unfold dunnagelaw22_JournalKeeps.Pure
  intros
  rfl
end Go.Proofs.Ytppfkbigeknedaa.Q
