/- The row's closed facts, part 2: each by the kernel. -/
import Derived.Test.YtibknkdgdfdkiaaGreatDoorRows
import Derived.JoinedOf
import Derived.KernelRfl
namespace Go.Proofs.YtibknkdgdfdkiaaGreatDoor.hubForms
open Go

theorem k11 : ((Rows.hubFormsRow.unfollowed == Tryz.prog.unfollowed 4)) = true := by kernel_rfl
end Go.Proofs.YtibknkdgdfdkiaaGreatDoor.hubForms
