/- The row's closed facts, part 3: each by the kernel. -/
import Derived.Test.YtibknkdgdfdkiaaGreatDoorRows
import Derived.JoinedOf
import Derived.KernelRfl
namespace Go.Proofs.YtibknkdgdfdkiaaGreatDoor.hubNil
open Go

theorem k12 : ((Rows.hubNilRow.recurses == Tryz.prog.recurses 3)) = true := by kernel_rfl
end Go.Proofs.YtibknkdgdfdkiaaGreatDoor.hubNil
