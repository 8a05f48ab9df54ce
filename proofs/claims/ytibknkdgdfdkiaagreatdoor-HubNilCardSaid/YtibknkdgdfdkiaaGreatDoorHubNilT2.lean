/- The tie's closed facts, part 2. -/
import Derived.Test.YtibknkdgdfdkiaaGreatDoorHubNilT1
import Derived.LaidByTextLater
import Derived.KernelRfl
namespace Go.Proofs.YtibknkdgdfdkiaaGreatDoor.hubNil
open Go
theorem tn : varsNamedLaterB Tryz.prog (varsId Tryz.prog) listed = true := by kernel_rfl
end Go.Proofs.YtibknkdgdfdkiaaGreatDoor.hubNil
