/- The card. -/
import Derived.Test.YtibknkdgdfdkiaaGreatDoorHubFormsT6
import Derived.Test.YtibknkdgdfdkiaaGreatDoorHubFormsT7
import Derived.Test.YtibknkdgdfdkiaaGreatDoorHubFormsT8
import Derived.Test.YtibknkdgdfdkiaaGreatDoorHubForms
import Derived.SevenTiedAt
namespace Go.Proofs.YtibknkdgdfdkiaaGreatDoor.hubForms
open Go
theorem plainArgs (f : FuncId) (fn : Func) (hf : Tryz.pinned.checked.prog.funcNamed Rows.hubFormsRow.func = some f) (hfn : Tryz.pinned.checked.prog.funcs[f]? = some fn) :
    true = Tryz.pinned.checked.prog.looks [] ∧ ∀ (j : Nat) t, fn.params[j]? = some t → Tryz.pinned.checked.prog.wantsStandIn t = false := by
  obtain rfl : f = 4 := (Option.some.inj (named3.symm.trans hf)).symm
  obtain rfl : fn = Tryz.f4 := (Option.some.inj (Tryz.func4.symm.trans hfn)).symm
  refine ⟨looks, fun j t ht => ?_⟩
  rw [Tryz.params4] at ht
  match j, ht with
  | 0, ht => simp at ht; subst ht; exact noStandIn0
  | 1, ht => simp at ht; subst ht; exact noStandIn1
  | j + 2, ht => simp at ht
/-- THE CARD. -/
theorem card : Rows.HubFormsCardSaid :=
  Claim7.holds_tied_plain_at .later [] _ _ _ _ said (fun _ h => by cases h) wfText (fun _ h => by cases h) row_tie rfl ⟨rfl, rfl⟩ mainIs rfl plainArgs goesBy
#print axioms card
end Go.Proofs.YtibknkdgdfdkiaaGreatDoor.hubForms
