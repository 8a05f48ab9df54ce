/-
  HubNil: a nil hub does nothing, and a step that is none is told: for every step the law returns true, never panics, and the step reads behind the call as it read before. Condition: the listed package-level variables read as the row lists them (the card ties that to the program's text).
-/
import Derived.Test.YtibknkdgdfdkiaaGreatDoorRows
import Derived.Test.YtibknkdgdfdkiaaGreatDoorHubNilC
import Derived.Test.YtibknkdgdfdkiaaGreatDoorHubNilG
import Derived.Test.YtibknkdgdfdkiaaGreatDoorHubNilK6
import Derived.SevenTiedAt
namespace Go.Proofs.YtibknkdgdfdkiaaGreatDoor.hubNil
open Go.ChangeShapes Go.WideShapes Go.ChangeAt Go.RowKit

set_option maxRecDepth 100000 in
theorem lifted (os : Os) (started : os.Started) (H : Type) (enc : TypeId × Value → H) :
    ReturnsInHanded {} Tryz.checked os 3 .any (fun w args => (Rows.hubNilSpec.pre enc Tryz.prog Tryz.f3 Rows.hubNilRow.domain false w args ∧ laidMetH Tryz.prog Rows.hubNilRow.laid w) ∧ sizedMet enc Tryz.prog Tryz.f3 (OpenSpec.ofChange Rows.hubNilSpec) false w args)
      (Rows.hubNilSpec.post enc Tryz.prog Tryz.f3 false true false false) := by
  refine returnsInHanded_of_change_and (C := Tryz.checked) (X := fun w _ => laidMetH Tryz.prog Rows.hubNilRow.laid w) (fun _ _ _ hh h => h.of_heap hh) own started noInit Tryz.func3
    (ChangeSpec.witness_shaped (enc := enc) (C := Tryz.checked) (os := os) (X := fun w _ => laidMetH Tryz.prog Rows.hubNilRow.laid w) false (w0 os) args0 8 (World.laidAll_os _ _ _)
      (shaped os) (okIn os) (preIn os H enc) (sizedIn os H enc) (laid_met os)) ?_
  intro W base args ds gs before hval hW _ _ _ _
  exact contract H enc W base args ds gs before hval hW

theorem named3 : Tryz.pinned.checked.prog.funcNamed Rows.hubNilRow.func = some 3 := by kernel_rfl
theorem inst3 : Tryz.f3.isInstance Tryz.pinned.checked.prog Rows.hubNilRow.origin Rows.hubNilRow.targs := of_decide_eq_true (by kernel_rfl)
theorem wrap3 : Tryz.f3.isWrapper Tryz.pinned.checked.prog Rows.hubNilRow.wrapper Rows.hubNilRow.mainSum := by
  unfold Func.isWrapper
  first | (rw [if_pos (by decide +kernel)]; kernel_rfl) | (rw [if_neg (by decide +kernel)]; exact ⟨rfl, rfl⟩)
theorem said : Rows.HubNilSaid :=
  OpenClaim.holds_of_wide 3 Tryz.f3 rfl rfl rfl rfl rfl rfl rfl ⟨rfl, rfl, rfl, rfl, rfl⟩ rfl rfl rfl rfl rfl named3 Tryz.func3 closed
    inst3 wrap3 (fun os started H enc _ => lifted os started H enc)
#print axioms said
end Go.Proofs.YtibknkdgdfdkiaaGreatDoor.hubNil
