/- DiskBegins, behind its walk. -/
import Derived.Test.YtppfkbigeknedaaStatDiskBegins
namespace Go.Proofs.Ytppfkbigeknedaa.Q
theorem pureDiskBegins : dunnagelaw21_DiskBegins.Pure := fun _ _ _ _ _ _ _ _ => rfl
end Go.Proofs.Ytppfkbigeknedaa.Q
