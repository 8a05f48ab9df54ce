/- A closed fact of the card: no function of the whole translation starts a goroutine; so the call starts none. -/
import Derived.Test.YtibknkdgdfdkiaaGreatDoorCards
import Derived.SevenTiedAt
import Derived.KernelRfl
namespace Go.Proofs.YtibknkdgdfdkiaaGreatDoor.hubForms
open Go
theorem none_goes : Tryz.prog.funcs.toList.any Func.goes = false := by kernel_rfl
theorem goes_none {P : Program} (h : P.funcs.toList.any Func.goes = false) (f : FuncId) : P.goes f = false := by
  have h1 : P.funcs.any Func.goes = false := by rw [← Array.any_toList]; exact h
  have h2 : ∀ g : FuncId, (P.funcs[g]?).any Func.goes = false := by
    intro g
    cases e : P.funcs[g]? with
    | none => rfl
    | some fn =>
      have hm : fn ∈ P.funcs.toList := Array.mem_toList_iff.mpr (Array.mem_of_getElem? e)
      exact Bool.eq_false_iff.mpr fun hh => by
        have : P.funcs.toList.any Func.goes = true := List.any_eq_true.mpr ⟨fn, hm, hh⟩
        rw [h] at this
        cases this
  unfold Program.goes
  rw [h1, Bool.and_false, Bool.or_false]
  exact Bool.eq_false_iff.mpr fun hh => by
    obtain ⟨g, _, hg⟩ := List.any_eq_true.mp hh
    rw [h2 g] at hg
    cases hg
theorem goes_at {P : Program} (h : P.funcs.toList.any Func.goes = false) (s : Start) (func : String) : P.goesAt s func = false := by
  have hf : P.goes = fun _ => false := funext (goes_none h)
  unfold Program.goesAt Program.goesFrom
  rw [hf]
  cases s <;> cases P.funcNamed func <;> simp
theorem goesBy : false = Rows.hubFormsRow.goesBy Tryz.pinned.checked.prog := (goes_at none_goes _ _).symm
end Go.Proofs.YtibknkdgdfdkiaaGreatDoor.hubForms
