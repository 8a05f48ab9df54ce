/- Closed facts of the card. -/
import Derived.Test.YtibknkdgdfdkiaaGreatDoorCards
import Derived.SevenTiedAt
import Derived.KernelRfl
namespace Go.Proofs.YtibknkdgdfdkiaaGreatDoor.hubNil
open Go
theorem wfText : Rows.hubNilRow.wfByText (OpenSpec.ofChange Rows.hubNilSpec) = true := by kernel_rfl
theorem mainIs : Tryz.pinned.checked.prog.mainIs = some (Rows.hubNilCard.stood.harness.1, Rows.hubNilCard.stood.harness.2.toList) := by kernel_rfl
theorem looks : true = Tryz.pinned.checked.prog.looks [] := by kernel_rfl
theorem noStandIn : Tryz.prog.wantsStandIn 24 = false := by kernel_rfl
end Go.Proofs.YtibknkdgdfdkiaaGreatDoor.hubNil
