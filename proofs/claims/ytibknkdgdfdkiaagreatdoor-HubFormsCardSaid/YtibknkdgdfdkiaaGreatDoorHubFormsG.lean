/-
  HubForms: the witness: no which, an empty name; the listed variables laid as they are listed.
-/
import Derived.Test.YtibknkdgdfdkiaaGreatDoorRows
import Derived.WalkKit
import Derived.ProofKit
import Derived.Lay
import Derived.LaidMore
import Derived.OpenShut
import Derived.Stop.Joined
namespace Go.Proofs.YtibknkdgdfdkiaaGreatDoor.hubForms
open Go.ChangeShapes Go.WideShapes Go.ChangeAt Go.RowKit

noncomputable def args0 : Array Value := #[.int .i64 0, .string ⟨#[]⟩]
noncomputable def w0 (os : Os) : World := World.laidAll Tryz.prog os Rows.hubFormsRow.laid
theorem fits (os : Os) : (World.holding Tryz.prog os ⟨#[], #[], []⟩).layFits Tryz.prog Rows.hubFormsRow.laid [] = true := by kernel_rfl
theorem ifaces (os : Os) : (World.holding Tryz.prog os ⟨#[], #[], []⟩).layIfaces Tryz.prog Rows.hubFormsRow.laid (World.laidAll Tryz.prog os Rows.hubFormsRow.laid) = true := by kernel_rfl
theorem laid_met (os : Os) : laidMetH Tryz.prog Rows.hubFormsRow.laid ((w0 os).forCall (fun _ _ => 0) ⟨#[], args0, []⟩).memory := by
  rw [MakeChecks.laidMetH_plain _ _ _ (by kernel_rfl)]
  exact laidMet_laidAll _ (fits os) (ifaces os)
theorem shaped (os : Os) : ((w0 os).forCall (fun _ _ => 0) ⟨#[], args0, []⟩).Shaped Tryz.prog := World.shaped_of_ZipB (by kernel_rfl) (by kernel_rfl)
theorem okIn (os : Os) : Input.okWideB Tryz.prog ((w0 os).forCall (fun _ _ => 0) ⟨#[], args0, []⟩) 4 ⟨#[], args0, []⟩ = true := by kernel_rfl
theorem preIn (os : Os) (H : Type) (enc : TypeId × Value → H) : Rows.hubFormsSpec.preB enc Tryz.prog Tryz.f4 Rows.hubFormsRow.domain false ((w0 os).forCall (fun _ _ => 0) ⟨#[], args0, []⟩).memory args0 8 = true := by kernel_rfl
theorem sizedIn (os : Os) (H : Type) (enc : TypeId × Value → H) : Rows.hubFormsSpec.sizedB enc Tryz.prog Tryz.f4 false ((w0 os).forCall (fun _ _ => 0) ⟨#[], args0, []⟩).memory args0 8 = true := by kernel_rfl
theorem noInit : Tryz.checked.prog.inits.idxOf? 4 = none := by kernel_rfl
theorem own : ownKnob Tryz.prog.godebug = none := by kernel_rfl
end Go.Proofs.YtibknkdgdfdkiaaGreatDoor.hubForms
