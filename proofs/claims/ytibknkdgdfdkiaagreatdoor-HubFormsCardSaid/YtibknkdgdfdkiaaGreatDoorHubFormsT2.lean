/- The tie's closed facts, part 2. -/
import Derived.Test.YtibknkdgdfdkiaaGreatDoorHubFormsT1
import Derived.LaidByTextLater
import Derived.KernelRfl
namespace Go.Proofs.YtibknkdgdfdkiaaGreatDoor.hubForms
open Go
theorem tn : varsNamedLaterB Tryz.prog (varsId Tryz.prog) listed = true := by kernel_rfl
end Go.Proofs.YtibknkdgdfdkiaaGreatDoor.hubForms
