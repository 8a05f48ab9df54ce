/- Closed facts of the card. -/
import Derived.Test.YtibknkdgdfdkiaaGreatDoorCards
import Derived.SevenTiedAt
import Derived.KernelRfl
namespace Go.Proofs.YtibknkdgdfdkiaaGreatDoor.hubForms
open Go
theorem wfText : Rows.hubFormsRow.wfByText (OpenSpec.ofChange Rows.hubFormsSpec) = true := by kernel_rfl
theorem mainIs : Tryz.pinned.checked.prog.mainIs = some (Rows.hubFormsCard.stood.harness.1, Rows.hubFormsCard.stood.harness.2.toList) := by kernel_rfl
theorem looks : true = Tryz.pinned.checked.prog.looks [] := by kernel_rfl
theorem noStandIn0 : Tryz.prog.wantsStandIn 3 = false := by kernel_rfl
theorem noStandIn1 : Tryz.prog.wantsStandIn 9 = false := by kernel_rfl
end Go.Proofs.YtibknkdgdfdkiaaGreatDoor.hubForms
