/- JournalPlays, behind its walk. -/
import Derived.Test.YtppfkbigeknedaaVStatJournalPlays
namespace Go.Proofs.Ytppfkbigeknedaa.Q
theorem pureJournalPlays : dunnagelaw22_JournalPlays.Pure := fun _ l1 _ _ h _ => by
  unfold dunnagelaw22_JournalPlays.f
  exact if_pos (fun y hy => by have := Go.bounds_u8 (h.2 y hy); unfold isByte; omega)
end Go.Proofs.Ytppfkbigeknedaa.Q
