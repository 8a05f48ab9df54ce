import Derived.Test.YtibknkdgdfdkiaaGreatDoorRows
import Derived.WalkKit
import Derived.ProofKit
import Derived.Lay
import Derived.LaidMore
import Derived.OpenShut
import Derived.Stop.Joined
import Derived.Test.YtibknkdgdfdkiaaGreatDoorHubNilF
namespace Go.Proofs.YtibknkdgdfdkiaaGreatDoor.hubNil
open Go.ChangeShapes Go.WideShapes Go.ChangeAt Go.RowKit

/-- The witness: the step that is all zero, the listed variables laid as they are listed. -/
noncomputable def args0 : Array Value := #[.agg #[.int .i64 0, .string ⟨#[]⟩, .slice none 0 0, .int .i64 0, .int .i64 0]]
noncomputable def w0 (os : Os) : World := World.laidAll Tryz.prog os Rows.hubNilRow.laid
theorem plainly : (Rows.hubNilRow.laid.all fun x => x.2.handleName?.isNone) = true := by kernel_rfl
theorem fits (os : Os) : (World.holding Tryz.prog os ⟨#[], #[], []⟩).layFits Tryz.prog Rows.hubNilRow.laid [] = true := by kernel_rfl
theorem ifaces (os : Os) : (World.holding Tryz.prog os ⟨#[], #[], []⟩).layIfaces Tryz.prog Rows.hubNilRow.laid (World.laidAll Tryz.prog os Rows.hubNilRow.laid) = true := by kernel_rfl
theorem laid_met (os : Os) : laidMetH Tryz.prog Rows.hubNilRow.laid ((w0 os).forCall (fun _ _ => 0) ⟨#[], args0, []⟩).memory := by
  rw [MakeChecks.laidMetH_plain _ _ _ (by kernel_rfl)]
  exact laidMet_laidAll _ (fits os) (ifaces os)
theorem shaped (os : Os) : ((w0 os).forCall (fun _ _ => 0) ⟨#[], args0, []⟩).Shaped Tryz.prog := World.shaped_of_ZipB (by kernel_rfl) (by kernel_rfl)
theorem okIn (os : Os) : Input.okWideB Tryz.prog ((w0 os).forCall (fun _ _ => 0) ⟨#[], args0, []⟩) 3 ⟨#[], args0, []⟩ = true := by kernel_rfl
theorem preIn (os : Os) (H : Type) (enc : TypeId × Value → H) : Rows.hubNilSpec.preB enc Tryz.prog Tryz.f3 Rows.hubNilRow.domain false ((w0 os).forCall (fun _ _ => 0) ⟨#[], args0, []⟩).memory args0 8 = true := by kernel_rfl
theorem sizedIn (os : Os) (H : Type) (enc : TypeId × Value → H) : Rows.hubNilSpec.sizedB enc Tryz.prog Tryz.f3 false ((w0 os).forCall (fun _ _ => 0) ⟨#[], args0, []⟩).memory args0 8 = true := by kernel_rfl
theorem noInit : Tryz.checked.prog.inits.idxOf? 3 = none := by kernel_rfl
end Go.Proofs.YtibknkdgdfdkiaaGreatDoor.hubNil
