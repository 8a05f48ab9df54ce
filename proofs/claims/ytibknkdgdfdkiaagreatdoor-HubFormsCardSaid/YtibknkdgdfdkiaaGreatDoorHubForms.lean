/-
  HubForms: lines that are no steps are told, whatever stands ahead: for every which and every name the law returns true, never panics, and its arguments read behind the call as they read before. Condition: the listed package-level variables read as the row lists them (the card ties that to the program's text).
-/
import Derived.Test.YtibknkdgdfdkiaaGreatDoorRows
import Derived.Test.YtibknkdgdfdkiaaGreatDoorHubFormsM
import Derived.Test.YtibknkdgdfdkiaaGreatDoorHubFormsG
import Derived.Test.YtibknkdgdfdkiaaGreatDoorHubFormsK6
import Derived.SevenTiedAt
namespace Go.Proofs.YtibknkdgdfdkiaaGreatDoor.hubForms
open Go.ChangeShapes Go.WideShapes Go.ChangeAt Go.RowKit

theorem of_change_and_shaped {H : Type} {enc : TypeId × Value → H} {a : Assume} {C : Checked} {os : Os} {f : FuncId} {fn : Func} {s : ChangeSpec} {conds : List PathCond} {apart fresh handsOn again : Bool} {X : World → Array Value → Prop}
    (hX : ∀ (w w' : World) (args : Array Value), w.heap = w'.heap → X w args → X w' args)
    (own : ownKnob C.prog.godebug = none) (started : os.Started) (noInit : C.prog.inits.idxOf? f = none) (hfn : C.prog.funcs[f]? = some fn)
    (witness : ∃ (w : World) (tape : Tape) (i : Input), w.os = os ∧ (w.forCall tape i).Shaped C.prog ∧ i.vars = [] ∧ Input.okWide C.prog (w.forCall tape i) .any w.heap.size f i ∧
      ((s.pre enc C.prog fn conds apart (w.forCall tape i).memory i.args ∧ X (w.forCall tape i).memory i.args) ∧ sizedMet enc C.prog fn (OpenSpec.ofChange s) apart (w.forCall tape i).memory i.args) ∧ a.holds C.prog (lone (Frame.enter C.prog f i.args .normal) [] (w.forCall tape i)))
    (contract : ∀ (W : World) (base : Nat) (args : Array Value) (ds gs : List (DataW H)) (before : List MemPlace),
      (∀ (j : Nat) t v, fn.params[j]? = some t → args[j]? = some v → Value.okWide C.prog W .any base t v) →
      DataW.Whole enc C.prog fn.params.toList s.vars apart W args.toList ds gs before →
      W.ShapedOpen C.prog → X W args →
      Calls C.prog f args W fun e W' => ∃ v, e = .returned v ∧ s.post enc C.prog fn apart fresh handsOn again W args v W') :
    ReturnsInHanded a C os f .any (fun w args => (s.pre enc C.prog fn conds apart w args ∧ X w args) ∧ sizedMet enc C.prog fn (OpenSpec.ofChange s) apart w args) (s.post enc C.prog fn apart fresh handsOn again) := by
  refine returnsInHanded_of_calls own started noInit witness ?_
  intro w tape i _ hsh _ hok hpre hholds
  obtain ⟨_, _, _, fn', hfn', _, _, _, _, hval⟩ := hok
  have e : fn' = fn := Option.some.inj (hfn'.symm.trans hfn)
  subst e
  obtain ⟨⟨⟨ds, gs, before, hw, hc⟩, hx⟩, hz⟩ := hpre
  have hw' := DataW.Whole.of_heap (w' := w.forCall tape i) (by rfl) hw
  refine (contract (w.forCall tape i) w.heap.size i.args ds gs before hval hw' hsh (hX _ _ _ (by rfl) hx)).mono fun e W' ⟨v, he, hp⟩ => ?_
  subst he
  exact ChangeSpec.post_blind hp

set_option maxRecDepth 100000 in
theorem lifted (os : Os) (started : os.Started) (H : Type) (enc : TypeId × Value → H) :
    ReturnsInHanded {} Tryz.checked os 4 .any (fun w args => (Rows.hubFormsSpec.pre enc Tryz.prog Tryz.f4 Rows.hubFormsRow.domain false w args ∧ laidMetH Tryz.prog Rows.hubFormsRow.laid w) ∧ sizedMet enc Tryz.prog Tryz.f4 (OpenSpec.ofChange Rows.hubFormsSpec) false w args)
      (Rows.hubFormsSpec.post enc Tryz.prog Tryz.f4 false true false false) := by
  refine of_change_and_shaped (C := Tryz.checked) (X := fun w _ => laidMetH Tryz.prog Rows.hubFormsRow.laid w) (fun _ _ _ hh h => h.of_heap hh) own started noInit Tryz.func4
    (ChangeSpec.witness_shaped (enc := enc) (C := Tryz.checked) (os := os) (X := fun w _ => laidMetH Tryz.prog Rows.hubFormsRow.laid w) false (w0 os) args0 8 (World.laidAll_os _ _ _)
      (shaped os) (okIn os) (preIn os H enc) (sizedIn os H enc) (laid_met os)) ?_
  intro W base args ds gs before hval hW hsh hx
  exact contract H enc W base args ds gs before (mem_of W hsh hx) hval hW

theorem named3 : Tryz.pinned.checked.prog.funcNamed Rows.hubFormsRow.func = some 4 := by kernel_rfl
theorem inst3 : Tryz.f4.isInstance Tryz.pinned.checked.prog Rows.hubFormsRow.origin Rows.hubFormsRow.targs := of_decide_eq_true (by kernel_rfl)
theorem wrap3 : Tryz.f4.isWrapper Tryz.pinned.checked.prog Rows.hubFormsRow.wrapper Rows.hubFormsRow.mainSum := by
  unfold Func.isWrapper
  first | (rw [if_pos (by decide +kernel)]; kernel_rfl) | (rw [if_neg (by decide +kernel)]; exact ⟨rfl, rfl⟩)
theorem said : Rows.HubFormsSaid :=
  OpenClaim.holds_of_wide 4 Tryz.f4 rfl rfl rfl rfl rfl rfl rfl ⟨rfl, rfl, rfl, rfl, rfl⟩ rfl rfl rfl rfl rfl named3 Tryz.func4 closed
    inst3 wrap3 (fun os started H enc _ => lifted os started H enc)
#print axioms said
end Go.Proofs.YtibknkdgdfdkiaaGreatDoor.hubForms
