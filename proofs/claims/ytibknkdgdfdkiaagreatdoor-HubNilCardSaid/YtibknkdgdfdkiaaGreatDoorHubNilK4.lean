/- The row's closed facts, part 4: each by the kernel. -/
import Derived.Test.YtibknkdgdfdkiaaGreatDoorRows
import Derived.JoinedOf
import Derived.KernelRfl
namespace Go.Proofs.YtibknkdgdfdkiaaGreatDoor.hubNil
open Go

theorem k13 : ((Rows.hubNilRow.named == Tryz.prog.varsNamed 3)) = true := by kernel_rfl
end Go.Proofs.YtibknkdgdfdkiaaGreatDoor.hubNil
