/- The card. -/
import Derived.Test.YtibknkdgdfdkiaaGreatDoorHubNilT6
import Derived.Test.YtibknkdgdfdkiaaGreatDoorHubNilT7
import Derived.Test.YtibknkdgdfdkiaaGreatDoorHubNilT8
import Derived.Test.YtibknkdgdfdkiaaGreatDoorHubNil
import Derived.SevenTiedAt
namespace Go.Proofs.YtibknkdgdfdkiaaGreatDoor.hubNil
open Go
theorem plainArgs (f : FuncId) (fn : Func) (hf : Tryz.pinned.checked.prog.funcNamed Rows.hubNilRow.func = some f) (hfn : Tryz.pinned.checked.prog.funcs[f]? = some fn) :
    true = Tryz.pinned.checked.prog.looks [] ∧ ∀ (j : Nat) t, fn.params[j]? = some t → Tryz.pinned.checked.prog.wantsStandIn t = false := by
  obtain rfl : f = 3 := (Option.some.inj (named3.symm.trans hf)).symm
  obtain rfl : fn = Tryz.f3 := (Option.some.inj (Tryz.func3.symm.trans hfn)).symm
  refine ⟨looks, fun j t ht => ?_⟩
  rw [Tryz.params3] at ht
  obtain rfl : t = 24 := by simpa using Array.mem_of_getElem? ht
  exact noStandIn
/-- THE CARD. -/
theorem card : Rows.HubNilCardSaid :=
  Claim7.holds_tied_plain_at .later [] _ _ _ _ said (fun _ h => by cases h) wfText (fun _ h => by cases h) row_tie rfl ⟨rfl, rfl⟩ mainIs rfl plainArgs goesBy
#print axioms card
end Go.Proofs.YtibknkdgdfdkiaaGreatDoor.hubNil
