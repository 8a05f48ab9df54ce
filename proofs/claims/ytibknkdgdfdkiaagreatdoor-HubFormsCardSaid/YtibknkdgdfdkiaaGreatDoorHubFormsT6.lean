/- The tie. -/
import Derived.Test.YtibknkdgdfdkiaaGreatDoorCards
import Derived.Test.YtibknkdgdfdkiaaGreatDoorHubFormsT2
import Derived.Test.YtibknkdgdfdkiaaGreatDoorHubFormsT3
import Derived.Test.YtibknkdgdfdkiaaGreatDoorHubFormsT4
import Derived.Test.YtibknkdgdfdkiaaGreatDoorHubFormsT5
import Derived.LaidByTextLater
import Derived.SevenTiedAt
namespace Go.Proofs.YtibknkdgdfdkiaaGreatDoor.hubForms
open Go
set_option maxRecDepth 100000 in
theorem tie : Tryz.prog.laidByTextLater listed [.data, .data, .data, .data, .data, .data, .data, .sentinel, .sentinel] true :=
  Program.laidByTextLater_by_run 400 8 tw tw' troot tk tg tn td t1 t2 thp
set_option maxRecDepth 100000 in
theorem row_tie : Rows.hubFormsRow.laidByTextAt .later Tryz.pinned [.pinned, .data, .data, .data, .data, .data, .data, .data, .sentinel, .sentinel] true :=
  OpenClaim.laidByTextAt_pinned rfl rfl tie rfl rfl rfl rfl (fun y hy _e => by
    simp only [Rows.hubFormsRow, List.zip_cons_cons, List.zip_nil_right, List.mem_cons, List.mem_nil_iff, or_false] at hy
    rcases hy with rfl | rfl | rfl | rfl | rfl | rfl | rfl | rfl | rfl | rfl
    · exact ⟨pin_first, by kernel_rfl⟩
    · cases _e
    · cases _e
    · cases _e
    · cases _e
    · cases _e
    · cases _e
    · cases _e
    · cases _e
    · cases _e) fits1
end Go.Proofs.YtibknkdgdfdkiaaGreatDoor.hubForms
