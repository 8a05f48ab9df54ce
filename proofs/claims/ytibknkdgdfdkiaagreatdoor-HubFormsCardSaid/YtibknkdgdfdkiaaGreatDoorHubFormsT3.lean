/- The tie's closed facts, part 3. -/
import Derived.Test.YtibknkdgdfdkiaaGreatDoorHubFormsT1
import Derived.LaidByTextLater
import Derived.KernelRfl
namespace Go.Proofs.YtibknkdgdfdkiaaGreatDoor.hubForms
open Go
theorem td : ∀ os tape, varsDone Tryz.prog 400 (varsId Tryz.prog) os tape = true := fun _ _ => by kernel_rfl
end Go.Proofs.YtibknkdgdfdkiaaGreatDoor.hubForms
