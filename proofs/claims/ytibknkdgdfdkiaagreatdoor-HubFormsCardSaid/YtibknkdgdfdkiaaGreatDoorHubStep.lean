/-
  hub.step at each shape of a line: what the parts of the line are comes in as a hypothesis (what strings.SplitN gives), what number and uri.Decode answer, too.
-/
import Derived.Test.YtibknkdgdfdkiaaGreatDoorProg
import Derived.WalkKit
import Derived.WalkLawsBesides
import Derived.WalkSpells
import Derived.Handy
import Derived.Deep.Cut
namespace Go.Proofs.YtibknkdgdfdkiaaGreatDoor.hubForms
open Go.RowKit

/-- The table of words, as the program lays it. -/
def WordsAt (W : World) : Prop := W.cell? ⟨0, 0, none⟩ = some (.string ⟨#[]⟩) ∧ W.cell? ⟨0, 1, none⟩ = some (.string ⟨#[112, 117, 116]⟩) ∧ W.cell? ⟨0, 2, none⟩ = some (.string ⟨#[100, 114, 111, 112]⟩) ∧ W.cell? ⟨0, 3, none⟩ = some (.string ⟨#[98, 117, 105, 108, 100]⟩) ∧ W.cell? ⟨0, 4, none⟩ = some (.string ⟨#[112, 117, 98, 108, 105, 115, 104]⟩) ∧ W.cell? ⟨0, 5, none⟩ = some (.string ⟨#[114, 101, 97, 100]⟩) ∧ W.cell? ⟨0, 6, none⟩ = some (.string ⟨#[102, 117, 115, 101]⟩) ∧ W.cell? ⟨0, 7, none⟩ = some (.string ⟨#[99, 114, 97, 115, 104]⟩) ∧ W.cell? ⟨0, 8, none⟩ = some (.string ⟨#[115, 119, 101, 101, 112]⟩)

/-- What strings.SplitN gives: the parts in a new block. -/
def Splits (line : ByteArray) (ps : List ByteArray) : Prop := ∀ w : World, w.ShapedOpen Tryz.prog → ∃ cap, Calls Tryz.prog 94 #[.string line, .string ⟨#[32]⟩, .int .i64 3] w fun e w' =>
  e = .returned (.slice (some ⟨w.heap.size, 0, none⟩) ps.length cap) ∧ ∃ cs : Array Value, w' = w.alloc (.cells cs 9) ∧ ∀ i (h : i < ps.length), cs[i]? = some (.string ps[i])

theorem undMap : Tryz.prog.underlying 181 = some (.map 3 3) := by kernel_rfl
theorem undInt : Tryz.prog.underlying 3 = some (.int .i64) := by kernel_rfl
theorem key_ok (b : Bool) (k : Int) (w : World) : (Instr.checkKey b 10000 3 (.int .i64 k)).run Tryz.prog w = .ok () w := by kernel_rfl
theorem push_set {α : Type} (xs : Array α) (a b : α) : (xs.push a).setIfInBounds xs.size b = xs.push b := by
  apply Array.ext'
  simp
theorem und_run (t : TypeId) (d : TypeDesc) (h : Tryz.prog.underlying t = some d) (w : World) : (underlying t).run Tryz.prog w = .ok d w := by
  unfold underlying
  simp [go_sem, h]
theorem run_put (W : World) (es : Array MapEntry) (c : Nat) (k v : Int) (h : Instr.findNow (.int .i64) (.int .i64 k) es.toList 0 = some none) :
    (Instr.mapUpdate 181 (.map (some W.heap.size)) (.int .i64 k) (.int .i64 v)).run Tryz.prog (W.alloc (.map es c)) = .ok () (W.alloc (.map (es.push { key := .int .i64 k, val := .int .i64 v, born := c }) (c + 1))) := by
  have hg : (W.alloc (.map es c)).heap[W.heap.size]? = some (.map es c) := by show (W.heap.push _)[_]? = _; simp
  have hs : ({ (W.alloc (.map es c)) with heap := (W.alloc (.map es c)).heap.setIfInBounds W.heap.size (.map (es.push { key := .int .i64 k, val := .int .i64 v, born := c }) (c + 1)) } : World) = W.alloc (.map (es.push { key := .int .i64 k, val := .int .i64 v, born := c }) (c + 1)) := by
    show ({ W with heap := (W.heap.push (.map es c)).setIfInBounds W.heap.size _ } : World) = { W with heap := W.heap.push _ }
    rw [push_set]
  have hget : (getObj W.heap.size).run Tryz.prog (W.alloc (.map es c)) = .ok (.map es c) (W.alloc (.map es c)) := by simp only [getObj, Sem.run, hg]
  have hset : (setObj W.heap.size (.map (es.push { key := .int .i64 k, val := .int .i64 v, born := c }) (c + 1))).run Tryz.prog (W.alloc (.map es c)) = .ok () (W.alloc (.map (es.push { key := .int .i64 k, val := .int .i64 v, born := c }) (c + 1))) := by
    simp only [setObj, Sem.run, hg]
    exact congrArg (Result.ok ()) hs
  unfold Instr.mapUpdate Instr.findKey
  simp only [Sem.run_bind, und_run _ _ undMap, und_run _ _ undInt, key_ok, Result.andThen, h, hget, Sem.run_pure, hset]
theorem run_get (W : World) (es : Array MapEntry) (c : Nat) (k v : Int) (i : Nat) (h : Instr.findNow (.int .i64) (.int .i64 k) es.toList 0 = some (some (i, .int .i64 v))) :
    (Instr.lookup 181 (.map (some W.heap.size)) (.int .i64 k) false).run Tryz.prog (W.alloc (.map es c)) = .ok (.int .i64 v) (W.alloc (.map es c)) := by
  have hg : (W.alloc (.map es c)).heap[W.heap.size]? = some (.map es c) := by show (W.heap.push _)[_]? = _; simp
  have hget : (getObj W.heap.size).run Tryz.prog (W.alloc (.map es c)) = .ok (.map es c) (W.alloc (.map es c)) := by simp only [getObj, Sem.run, hg]
  unfold Instr.lookup Instr.findKey
  simp only [Sem.run_bind, und_run _ _ undMap, und_run _ _ undInt, key_ok, Result.andThen, h, hget, Sem.run_pure]
  rfl
theorem zeroInt (w : World) : (zeroValue 3).run Tryz.prog w = .ok (.int .i64 0) w := by kernel_rfl
theorem run_get_none (W : World) (es : Array MapEntry) (c : Nat) (k : Int) (h : Instr.findNow (.int .i64) (.int .i64 k) es.toList 0 = some none) :
    (Instr.lookup 181 (.map (some W.heap.size)) (.int .i64 k) false).run Tryz.prog (W.alloc (.map es c)) = .ok (.int .i64 0) (W.alloc (.map es c)) := by
  have hg : (W.alloc (.map es c)).heap[W.heap.size]? = some (.map es c) := by show (W.heap.push _)[_]? = _; simp
  have hget : (getObj W.heap.size).run Tryz.prog (W.alloc (.map es c)) = .ok (.map es c) (W.alloc (.map es c)) := by simp only [getObj, Sem.run, hg]
  unfold Instr.lookup Instr.findKey
  simp only [Sem.run_bind, und_run _ _ undMap, und_run _ _ undInt, key_ok, Result.andThen, h, hget, Sem.run_pure, zeroInt]
  rfl
set_option maxRecDepth 100000 in
/-- A line whose first word is 'put', of 2 part(s): it is no step. -/
theorem step_put2 (q1 : ByteArray) (line : ByteArray) (w : World) (hw : WordsAt w) (h0 : 0 < w.heap.size) (hsh : ∀ W : World, Below w.heap.size w W → W.ShapedOpen Tryz.prog) (hs : Splits line [⟨#[112, 117, 116]⟩, q1]) :
    Calls Tryz.prog 47 #[.string line] w fun e w' => e = .returned (.tuple #[.agg #[.int .i64 0, .string ⟨#[]⟩, .slice none 0 0, .int .i64 0, .int .i64 0], .bool false]) ∧ Below w.heap.size w w' := by
  obtain ⟨a0, a1, a2, a3, a4, a5, a6, a7, a8⟩ := hw
  have ix0 : ∀ w : World, (Instr.index 94 (.agg #[.string ⟨#[]⟩, .string ⟨#[112, 117, 116]⟩, .string ⟨#[100, 114, 111, 112]⟩, .string ⟨#[98, 117, 105, 108, 100]⟩, .string ⟨#[112, 117, 98, 108, 105, 115, 104]⟩, .string ⟨#[114, 101, 97, 100]⟩, .string ⟨#[102, 117, 115, 101]⟩, .string ⟨#[99, 114, 97, 115, 104]⟩, .string ⟨#[115, 119, 101, 101, 112]⟩]) (.int .i64 0)).run Tryz.prog w = .ok (.string ⟨#[]⟩) w := fun _ => by kernel_rfl
  have ix1 : ∀ w : World, (Instr.index 94 (.agg #[.string ⟨#[]⟩, .string ⟨#[112, 117, 116]⟩, .string ⟨#[100, 114, 111, 112]⟩, .string ⟨#[98, 117, 105, 108, 100]⟩, .string ⟨#[112, 117, 98, 108, 105, 115, 104]⟩, .string ⟨#[114, 101, 97, 100]⟩, .string ⟨#[102, 117, 115, 101]⟩, .string ⟨#[99, 114, 97, 115, 104]⟩, .string ⟨#[115, 119, 101, 101, 112]⟩]) (.int .i64 1)).run Tryz.prog w = .ok (.string ⟨#[112, 117, 116]⟩) w := fun _ => by kernel_rfl
  have ix2 : ∀ w : World, (Instr.index 94 (.agg #[.string ⟨#[]⟩, .string ⟨#[112, 117, 116]⟩, .string ⟨#[100, 114, 111, 112]⟩, .string ⟨#[98, 117, 105, 108, 100]⟩, .string ⟨#[112, 117, 98, 108, 105, 115, 104]⟩, .string ⟨#[114, 101, 97, 100]⟩, .string ⟨#[102, 117, 115, 101]⟩, .string ⟨#[99, 114, 97, 115, 104]⟩, .string ⟨#[115, 119, 101, 101, 112]⟩]) (.int .i64 2)).run Tryz.prog w = .ok (.string ⟨#[100, 114, 111, 112]⟩) w := fun _ => by kernel_rfl
  have ix3 : ∀ w : World, (Instr.index 94 (.agg #[.string ⟨#[]⟩, .string ⟨#[112, 117, 116]⟩, .string ⟨#[100, 114, 111, 112]⟩, .string ⟨#[98, 117, 105, 108, 100]⟩, .string ⟨#[112, 117, 98, 108, 105, 115, 104]⟩, .string ⟨#[114, 101, 97, 100]⟩, .string ⟨#[102, 117, 115, 101]⟩, .string ⟨#[99, 114, 97, 115, 104]⟩, .string ⟨#[115, 119, 101, 101, 112]⟩]) (.int .i64 3)).run Tryz.prog w = .ok (.string ⟨#[98, 117, 105, 108, 100]⟩) w := fun _ => by kernel_rfl
  have ix4 : ∀ w : World, (Instr.index 94 (.agg #[.string ⟨#[]⟩, .string ⟨#[112, 117, 116]⟩, .string ⟨#[100, 114, 111, 112]⟩, .string ⟨#[98, 117, 105, 108, 100]⟩, .string ⟨#[112, 117, 98, 108, 105, 115, 104]⟩, .string ⟨#[114, 101, 97, 100]⟩, .string ⟨#[102, 117, 115, 101]⟩, .string ⟨#[99, 114, 97, 115, 104]⟩, .string ⟨#[115, 119, 101, 101, 112]⟩]) (.int .i64 4)).run Tryz.prog w = .ok (.string ⟨#[112, 117, 98, 108, 105, 115, 104]⟩) w := fun _ => by kernel_rfl
  have ix5 : ∀ w : World, (Instr.index 94 (.agg #[.string ⟨#[]⟩, .string ⟨#[112, 117, 116]⟩, .string ⟨#[100, 114, 111, 112]⟩, .string ⟨#[98, 117, 105, 108, 100]⟩, .string ⟨#[112, 117, 98, 108, 105, 115, 104]⟩, .string ⟨#[114, 101, 97, 100]⟩, .string ⟨#[102, 117, 115, 101]⟩, .string ⟨#[99, 114, 97, 115, 104]⟩, .string ⟨#[115, 119, 101, 101, 112]⟩]) (.int .i64 5)).run Tryz.prog w = .ok (.string ⟨#[114, 101, 97, 100]⟩) w := fun _ => by kernel_rfl
  have ix6 : ∀ w : World, (Instr.index 94 (.agg #[.string ⟨#[]⟩, .string ⟨#[112, 117, 116]⟩, .string ⟨#[100, 114, 111, 112]⟩, .string ⟨#[98, 117, 105, 108, 100]⟩, .string ⟨#[112, 117, 98, 108, 105, 115, 104]⟩, .string ⟨#[114, 101, 97, 100]⟩, .string ⟨#[102, 117, 115, 101]⟩, .string ⟨#[99, 114, 97, 115, 104]⟩, .string ⟨#[115, 119, 101, 101, 112]⟩]) (.int .i64 6)).run Tryz.prog w = .ok (.string ⟨#[102, 117, 115, 101]⟩) w := fun _ => by kernel_rfl
  have ix7 : ∀ w : World, (Instr.index 94 (.agg #[.string ⟨#[]⟩, .string ⟨#[112, 117, 116]⟩, .string ⟨#[100, 114, 111, 112]⟩, .string ⟨#[98, 117, 105, 108, 100]⟩, .string ⟨#[112, 117, 98, 108, 105, 115, 104]⟩, .string ⟨#[114, 101, 97, 100]⟩, .string ⟨#[102, 117, 115, 101]⟩, .string ⟨#[99, 114, 97, 115, 104]⟩, .string ⟨#[115, 119, 101, 101, 112]⟩]) (.int .i64 7)).run Tryz.prog w = .ok (.string ⟨#[99, 114, 97, 115, 104]⟩) w := fun _ => by kernel_rfl
  have ix8 : ∀ w : World, (Instr.index 94 (.agg #[.string ⟨#[]⟩, .string ⟨#[112, 117, 116]⟩, .string ⟨#[100, 114, 111, 112]⟩, .string ⟨#[98, 117, 105, 108, 100]⟩, .string ⟨#[112, 117, 98, 108, 105, 115, 104]⟩, .string ⟨#[114, 101, 97, 100]⟩, .string ⟨#[102, 117, 115, 101]⟩, .string ⟨#[99, 114, 97, 115, 104]⟩, .string ⟨#[115, 119, 101, 101, 112]⟩]) (.int .i64 8)).run Tryz.prog w = .ok (.string ⟨#[115, 119, 101, 101, 112]⟩) w := fun _ => by kernel_rfl
  have hmm := @run_makeMap Tryz.prog
  obtain ⟨cap, hs⟩ := hs (w.alloc (.cells #[.int .i64 0, .string ⟨#[]⟩, .slice none 0 0, .int .i64 0, .int .i64 0] 24)) (hsh _ ((Below.refl _ _).alloc (Nat.le_refl _) _))
  go_enter Tryz.func47, Tryz.ntmps47
  go_wp2_with fail
  refine hs.mono ?_
  rintro e w1 ⟨rfl, cs, rfl, hc⟩
  have p0 := hc 0 (by simp)
  have p1 := hc 1 (by simp)
  simp only [List.getElem_cons_zero, List.getElem_cons_succ] at p0 p1
  clear hc hs
  go_wp2_with fail
  clear a0 a1 a2 a3 a4 a5 a6 a7 a8
  refine wp_loop_rounds 10 ?_
  iterate 9 (rw [rounds_succ]; go_wp2_with fail)
  rw [rounds_succ]
  go_upto_region 9 with (fail)
  have in1 := run_put (((w.alloc (.cells #[.int .i64 0, .string ⟨#[]⟩, .slice none 0 0, .int .i64 0, .int .i64 0] 24)).alloc (.cells cs 9)).alloc (.cells #[.int .i64 1, .string ⟨#[]⟩, .slice none 0 0, .int .i64 0, .int .i64 0] 24)) #[] 0 1 3 (by rfl)
  have in2 := run_put (((w.alloc (.cells #[.int .i64 0, .string ⟨#[]⟩, .slice none 0 0, .int .i64 0, .int .i64 0] 24)).alloc (.cells cs 9)).alloc (.cells #[.int .i64 1, .string ⟨#[]⟩, .slice none 0 0, .int .i64 0, .int .i64 0] 24)) #[⟨.int .i64 1, .int .i64 3, 0⟩] 1 2 2 (by rfl)
  have in3 := run_put (((w.alloc (.cells #[.int .i64 0, .string ⟨#[]⟩, .slice none 0 0, .int .i64 0, .int .i64 0] 24)).alloc (.cells cs 9)).alloc (.cells #[.int .i64 1, .string ⟨#[]⟩, .slice none 0 0, .int .i64 0, .int .i64 0] 24)) #[⟨.int .i64 1, .int .i64 3, 0⟩, ⟨.int .i64 2, .int .i64 2, 1⟩] 2 3 1 (by rfl)
  have in4 := run_put (((w.alloc (.cells #[.int .i64 0, .string ⟨#[]⟩, .slice none 0 0, .int .i64 0, .int .i64 0] 24)).alloc (.cells cs 9)).alloc (.cells #[.int .i64 1, .string ⟨#[]⟩, .slice none 0 0, .int .i64 0, .int .i64 0] 24)) #[⟨.int .i64 1, .int .i64 3, 0⟩, ⟨.int .i64 2, .int .i64 2, 1⟩, ⟨.int .i64 3, .int .i64 1, 2⟩] 3 4 1 (by rfl)
  have in5 := run_put (((w.alloc (.cells #[.int .i64 0, .string ⟨#[]⟩, .slice none 0 0, .int .i64 0, .int .i64 0] 24)).alloc (.cells cs 9)).alloc (.cells #[.int .i64 1, .string ⟨#[]⟩, .slice none 0 0, .int .i64 0, .int .i64 0] 24)) #[⟨.int .i64 1, .int .i64 3, 0⟩, ⟨.int .i64 2, .int .i64 2, 1⟩, ⟨.int .i64 3, .int .i64 1, 2⟩, ⟨.int .i64 4, .int .i64 1, 3⟩] 4 5 2 (by rfl)
  have in6 := run_put (((w.alloc (.cells #[.int .i64 0, .string ⟨#[]⟩, .slice none 0 0, .int .i64 0, .int .i64 0] 24)).alloc (.cells cs 9)).alloc (.cells #[.int .i64 1, .string ⟨#[]⟩, .slice none 0 0, .int .i64 0, .int .i64 0] 24)) #[⟨.int .i64 1, .int .i64 3, 0⟩, ⟨.int .i64 2, .int .i64 2, 1⟩, ⟨.int .i64 3, .int .i64 1, 2⟩, ⟨.int .i64 4, .int .i64 1, 3⟩, ⟨.int .i64 5, .int .i64 2, 4⟩] 5 6 2 (by rfl)
  have in7 := run_put (((w.alloc (.cells #[.int .i64 0, .string ⟨#[]⟩, .slice none 0 0, .int .i64 0, .int .i64 0] 24)).alloc (.cells cs 9)).alloc (.cells #[.int .i64 1, .string ⟨#[]⟩, .slice none 0 0, .int .i64 0, .int .i64 0] 24)) #[⟨.int .i64 1, .int .i64 3, 0⟩, ⟨.int .i64 2, .int .i64 2, 1⟩, ⟨.int .i64 3, .int .i64 1, 2⟩, ⟨.int .i64 4, .int .i64 1, 3⟩, ⟨.int .i64 5, .int .i64 2, 4⟩, ⟨.int .i64 6, .int .i64 2, 5⟩] 6 7 3 (by rfl)
  have in8 := run_put (((w.alloc (.cells #[.int .i64 0, .string ⟨#[]⟩, .slice none 0 0, .int .i64 0, .int .i64 0] 24)).alloc (.cells cs 9)).alloc (.cells #[.int .i64 1, .string ⟨#[]⟩, .slice none 0 0, .int .i64 0, .int .i64 0] 24)) #[⟨.int .i64 1, .int .i64 3, 0⟩, ⟨.int .i64 2, .int .i64 2, 1⟩, ⟨.int .i64 3, .int .i64 1, 2⟩, ⟨.int .i64 4, .int .i64 1, 3⟩, ⟨.int .i64 5, .int .i64 2, 4⟩, ⟨.int .i64 6, .int .i64 2, 5⟩, ⟨.int .i64 7, .int .i64 3, 6⟩] 7 8 1 (by rfl)
  have gt := run_get (((w.alloc (.cells #[.int .i64 0, .string ⟨#[]⟩, .slice none 0 0, .int .i64 0, .int .i64 0] 24)).alloc (.cells cs 9)).alloc (.cells #[.int .i64 1, .string ⟨#[]⟩, .slice none 0 0, .int .i64 0, .int .i64 0] 24)) #[⟨.int .i64 1, .int .i64 3, 0⟩, ⟨.int .i64 2, .int .i64 2, 1⟩, ⟨.int .i64 3, .int .i64 1, 2⟩, ⟨.int .i64 4, .int .i64 1, 3⟩, ⟨.int .i64 5, .int .i64 2, 4⟩, ⟨.int .i64 6, .int .i64 2, 5⟩, ⟨.int .i64 7, .int .i64 3, 6⟩, ⟨.int .i64 8, .int .i64 1, 7⟩] 8 1 3 0 (by rfl)
  simp only [World.size_alloc, List.push_toArray, List.cons_append, List.nil_append, Nat.reduceAdd] at in1 in2 in3 in4 in5 in6 in7 in8 gt
  clear ix0 ix1 ix2 ix3 ix4 ix5 ix6 ix7 ix8
  go_wp2_with fail
  refine bodyPost_ret (v := .tuple #[.agg #[.int .i64 0, .string ⟨#[]⟩, .slice none 0 0, .int .i64 0, .int .i64 0], .bool false]) (by simp [results, Tryz.results47, go_sem]) rfl ⟨rfl, ?_⟩
  repeat (first | exact Below.refl _ _ | refine Below.drew ?_ | refine Below.alloc ?_ (by simp; try omega) _ | refine Below.setCell ?_ (by simp; try omega) _)

set_option maxRecDepth 100000 in
/-- A line whose first word is 'put', of 1 part(s): it is no step. -/
theorem step_put1 (line : ByteArray) (w : World) (hw : WordsAt w) (h0 : 0 < w.heap.size) (hsh : ∀ W : World, Below w.heap.size w W → W.ShapedOpen Tryz.prog) (hs : Splits line [⟨#[112, 117, 116]⟩]) :
    Calls Tryz.prog 47 #[.string line] w fun e w' => e = .returned (.tuple #[.agg #[.int .i64 0, .string ⟨#[]⟩, .slice none 0 0, .int .i64 0, .int .i64 0], .bool false]) ∧ Below w.heap.size w w' := by
  obtain ⟨a0, a1, a2, a3, a4, a5, a6, a7, a8⟩ := hw
  have ix0 : ∀ w : World, (Instr.index 94 (.agg #[.string ⟨#[]⟩, .string ⟨#[112, 117, 116]⟩, .string ⟨#[100, 114, 111, 112]⟩, .string ⟨#[98, 117, 105, 108, 100]⟩, .string ⟨#[112, 117, 98, 108, 105, 115, 104]⟩, .string ⟨#[114, 101, 97, 100]⟩, .string ⟨#[102, 117, 115, 101]⟩, .string ⟨#[99, 114, 97, 115, 104]⟩, .string ⟨#[115, 119, 101, 101, 112]⟩]) (.int .i64 0)).run Tryz.prog w = .ok (.string ⟨#[]⟩) w := fun _ => by kernel_rfl
  have ix1 : ∀ w : World, (Instr.index 94 (.agg #[.string ⟨#[]⟩, .string ⟨#[112, 117, 116]⟩, .string ⟨#[100, 114, 111, 112]⟩, .string ⟨#[98, 117, 105, 108, 100]⟩, .string ⟨#[112, 117, 98, 108, 105, 115, 104]⟩, .string ⟨#[114, 101, 97, 100]⟩, .string ⟨#[102, 117, 115, 101]⟩, .string ⟨#[99, 114, 97, 115, 104]⟩, .string ⟨#[115, 119, 101, 101, 112]⟩]) (.int .i64 1)).run Tryz.prog w = .ok (.string ⟨#[112, 117, 116]⟩) w := fun _ => by kernel_rfl
  have ix2 : ∀ w : World, (Instr.index 94 (.agg #[.string ⟨#[]⟩, .string ⟨#[112, 117, 116]⟩, .string ⟨#[100, 114, 111, 112]⟩, .string ⟨#[98, 117, 105, 108, 100]⟩, .string ⟨#[112, 117, 98, 108, 105, 115, 104]⟩, .string ⟨#[114, 101, 97, 100]⟩, .string ⟨#[102, 117, 115, 101]⟩, .string ⟨#[99, 114, 97, 115, 104]⟩, .string ⟨#[115, 119, 101, 101, 112]⟩]) (.int .i64 2)).run Tryz.prog w = .ok (.string ⟨#[100, 114, 111, 112]⟩) w := fun _ => by kernel_rfl
  have ix3 : ∀ w : World, (Instr.index 94 (.agg #[.string ⟨#[]⟩, .string ⟨#[112, 117, 116]⟩, .string ⟨#[100, 114, 111, 112]⟩, .string ⟨#[98, 117, 105, 108, 100]⟩, .string ⟨#[112, 117, 98, 108, 105, 115, 104]⟩, .string ⟨#[114, 101, 97, 100]⟩, .string ⟨#[102, 117, 115, 101]⟩, .string ⟨#[99, 114, 97, 115, 104]⟩, .string ⟨#[115, 119, 101, 101, 112]⟩]) (.int .i64 3)).run Tryz.prog w = .ok (.string ⟨#[98, 117, 105, 108, 100]⟩) w := fun _ => by kernel_rfl
  have ix4 : ∀ w : World, (Instr.index 94 (.agg #[.string ⟨#[]⟩, .string ⟨#[112, 117, 116]⟩, .string ⟨#[100, 114, 111, 112]⟩, .string ⟨#[98, 117, 105, 108, 100]⟩, .string ⟨#[112, 117, 98, 108, 105, 115, 104]⟩, .string ⟨#[114, 101, 97, 100]⟩, .string ⟨#[102, 117, 115, 101]⟩, .string ⟨#[99, 114, 97, 115, 104]⟩, .string ⟨#[115, 119, 101, 101, 112]⟩]) (.int .i64 4)).run Tryz.prog w = .ok (.string ⟨#[112, 117, 98, 108, 105, 115, 104]⟩) w := fun _ => by kernel_rfl
  have ix5 : ∀ w : World, (Instr.index 94 (.agg #[.string ⟨#[]⟩, .string ⟨#[112, 117, 116]⟩, .string ⟨#[100, 114, 111, 112]⟩, .string ⟨#[98, 117, 105, 108, 100]⟩, .string ⟨#[112, 117, 98, 108, 105, 115, 104]⟩, .string ⟨#[114, 101, 97, 100]⟩, .string ⟨#[102, 117, 115, 101]⟩, .string ⟨#[99, 114, 97, 115, 104]⟩, .string ⟨#[115, 119, 101, 101, 112]⟩]) (.int .i64 5)).run Tryz.prog w = .ok (.string ⟨#[114, 101, 97, 100]⟩) w := fun _ => by kernel_rfl
  have ix6 : ∀ w : World, (Instr.index 94 (.agg #[.string ⟨#[]⟩, .string ⟨#[112, 117, 116]⟩, .string ⟨#[100, 114, 111, 112]⟩, .string ⟨#[98, 117, 105, 108, 100]⟩, .string ⟨#[112, 117, 98, 108, 105, 115, 104]⟩, .string ⟨#[114, 101, 97, 100]⟩, .string ⟨#[102, 117, 115, 101]⟩, .string ⟨#[99, 114, 97, 115, 104]⟩, .string ⟨#[115, 119, 101, 101, 112]⟩]) (.int .i64 6)).run Tryz.prog w = .ok (.string ⟨#[102, 117, 115, 101]⟩) w := fun _ => by kernel_rfl
  have ix7 : ∀ w : World, (Instr.index 94 (.agg #[.string ⟨#[]⟩, .string ⟨#[112, 117, 116]⟩, .string ⟨#[100, 114, 111, 112]⟩, .string ⟨#[98, 117, 105, 108, 100]⟩, .string ⟨#[112, 117, 98, 108, 105, 115, 104]⟩, .string ⟨#[114, 101, 97, 100]⟩, .string ⟨#[102, 117, 115, 101]⟩, .string ⟨#[99, 114, 97, 115, 104]⟩, .string ⟨#[115, 119, 101, 101, 112]⟩]) (.int .i64 7)).run Tryz.prog w = .ok (.string ⟨#[99, 114, 97, 115, 104]⟩) w := fun _ => by kernel_rfl
  have ix8 : ∀ w : World, (Instr.index 94 (.agg #[.string ⟨#[]⟩, .string ⟨#[112, 117, 116]⟩, .string ⟨#[100, 114, 111, 112]⟩, .string ⟨#[98, 117, 105, 108, 100]⟩, .string ⟨#[112, 117, 98, 108, 105, 115, 104]⟩, .string ⟨#[114, 101, 97, 100]⟩, .string ⟨#[102, 117, 115, 101]⟩, .string ⟨#[99, 114, 97, 115, 104]⟩, .string ⟨#[115, 119, 101, 101, 112]⟩]) (.int .i64 8)).run Tryz.prog w = .ok (.string ⟨#[115, 119, 101, 101, 112]⟩) w := fun _ => by kernel_rfl
  have hmm := @run_makeMap Tryz.prog
  obtain ⟨cap, hs⟩ := hs (w.alloc (.cells #[.int .i64 0, .string ⟨#[]⟩, .slice none 0 0, .int .i64 0, .int .i64 0] 24)) (hsh _ ((Below.refl _ _).alloc (Nat.le_refl _) _))
  go_enter Tryz.func47, Tryz.ntmps47
  go_wp2_with fail
  refine hs.mono ?_
  rintro e w1 ⟨rfl, cs, rfl, hc⟩
  have p0 := hc 0 (by simp)
  simp only [List.getElem_cons_zero] at p0
  clear hc hs
  go_wp2_with fail
  clear a0 a1 a2 a3 a4 a5 a6 a7 a8
  refine wp_loop_rounds 10 ?_
  iterate 9 (rw [rounds_succ]; go_wp2_with fail)
  rw [rounds_succ]
  go_upto_region 9 with (fail)
  have in1 := run_put (((w.alloc (.cells #[.int .i64 0, .string ⟨#[]⟩, .slice none 0 0, .int .i64 0, .int .i64 0] 24)).alloc (.cells cs 9)).alloc (.cells #[.int .i64 1, .string ⟨#[]⟩, .slice none 0 0, .int .i64 0, .int .i64 0] 24)) #[] 0 1 3 (by rfl)
  have in2 := run_put (((w.alloc (.cells #[.int .i64 0, .string ⟨#[]⟩, .slice none 0 0, .int .i64 0, .int .i64 0] 24)).alloc (.cells cs 9)).alloc (.cells #[.int .i64 1, .string ⟨#[]⟩, .slice none 0 0, .int .i64 0, .int .i64 0] 24)) #[⟨.int .i64 1, .int .i64 3, 0⟩] 1 2 2 (by rfl)
  have in3 := run_put (((w.alloc (.cells #[.int .i64 0, .string ⟨#[]⟩, .slice none 0 0, .int .i64 0, .int .i64 0] 24)).alloc (.cells cs 9)).alloc (.cells #[.int .i64 1, .string ⟨#[]⟩, .slice none 0 0, .int .i64 0, .int .i64 0] 24)) #[⟨.int .i64 1, .int .i64 3, 0⟩, ⟨.int .i64 2, .int .i64 2, 1⟩] 2 3 1 (by rfl)
  have in4 := run_put (((w.alloc (.cells #[.int .i64 0, .string ⟨#[]⟩, .slice none 0 0, .int .i64 0, .int .i64 0] 24)).alloc (.cells cs 9)).alloc (.cells #[.int .i64 1, .string ⟨#[]⟩, .slice none 0 0, .int .i64 0, .int .i64 0] 24)) #[⟨.int .i64 1, .int .i64 3, 0⟩, ⟨.int .i64 2, .int .i64 2, 1⟩, ⟨.int .i64 3, .int .i64 1, 2⟩] 3 4 1 (by rfl)
  have in5 := run_put (((w.alloc (.cells #[.int .i64 0, .string ⟨#[]⟩, .slice none 0 0, .int .i64 0, .int .i64 0] 24)).alloc (.cells cs 9)).alloc (.cells #[.int .i64 1, .string ⟨#[]⟩, .slice none 0 0, .int .i64 0, .int .i64 0] 24)) #[⟨.int .i64 1, .int .i64 3, 0⟩, ⟨.int .i64 2, .int .i64 2, 1⟩, ⟨.int .i64 3, .int .i64 1, 2⟩, ⟨.int .i64 4, .int .i64 1, 3⟩] 4 5 2 (by rfl)
  have in6 := run_put (((w.alloc (.cells #[.int .i64 0, .string ⟨#[]⟩, .slice none 0 0, .int .i64 0, .int .i64 0] 24)).alloc (.cells cs 9)).alloc (.cells #[.int .i64 1, .string ⟨#[]⟩, .slice none 0 0, .int .i64 0, .int .i64 0] 24)) #[⟨.int .i64 1, .int .i64 3, 0⟩, ⟨.int .i64 2, .int .i64 2, 1⟩, ⟨.int .i64 3, .int .i64 1, 2⟩, ⟨.int .i64 4, .int .i64 1, 3⟩, ⟨.int .i64 5, .int .i64 2, 4⟩] 5 6 2 (by rfl)
  have in7 := run_put (((w.alloc (.cells #[.int .i64 0, .string ⟨#[]⟩, .slice none 0 0, .int .i64 0, .int .i64 0] 24)).alloc (.cells cs 9)).alloc (.cells #[.int .i64 1, .string ⟨#[]⟩, .slice none 0 0, .int .i64 0, .int .i64 0] 24)) #[⟨.int .i64 1, .int .i64 3, 0⟩, ⟨.int .i64 2, .int .i64 2, 1⟩, ⟨.int .i64 3, .int .i64 1, 2⟩, ⟨.int .i64 4, .int .i64 1, 3⟩, ⟨.int .i64 5, .int .i64 2, 4⟩, ⟨.int .i64 6, .int .i64 2, 5⟩] 6 7 3 (by rfl)
  have in8 := run_put (((w.alloc (.cells #[.int .i64 0, .string ⟨#[]⟩, .slice none 0 0, .int .i64 0, .int .i64 0] 24)).alloc (.cells cs 9)).alloc (.cells #[.int .i64 1, .string ⟨#[]⟩, .slice none 0 0, .int .i64 0, .int .i64 0] 24)) #[⟨.int .i64 1, .int .i64 3, 0⟩, ⟨.int .i64 2, .int .i64 2, 1⟩, ⟨.int .i64 3, .int .i64 1, 2⟩, ⟨.int .i64 4, .int .i64 1, 3⟩, ⟨.int .i64 5, .int .i64 2, 4⟩, ⟨.int .i64 6, .int .i64 2, 5⟩, ⟨.int .i64 7, .int .i64 3, 6⟩] 7 8 1 (by rfl)
  have gt := run_get (((w.alloc (.cells #[.int .i64 0, .string ⟨#[]⟩, .slice none 0 0, .int .i64 0, .int .i64 0] 24)).alloc (.cells cs 9)).alloc (.cells #[.int .i64 1, .string ⟨#[]⟩, .slice none 0 0, .int .i64 0, .int .i64 0] 24)) #[⟨.int .i64 1, .int .i64 3, 0⟩, ⟨.int .i64 2, .int .i64 2, 1⟩, ⟨.int .i64 3, .int .i64 1, 2⟩, ⟨.int .i64 4, .int .i64 1, 3⟩, ⟨.int .i64 5, .int .i64 2, 4⟩, ⟨.int .i64 6, .int .i64 2, 5⟩, ⟨.int .i64 7, .int .i64 3, 6⟩, ⟨.int .i64 8, .int .i64 1, 7⟩] 8 1 3 0 (by rfl)
  simp only [World.size_alloc, List.push_toArray, List.cons_append, List.nil_append, Nat.reduceAdd] at in1 in2 in3 in4 in5 in6 in7 in8 gt
  clear ix0 ix1 ix2 ix3 ix4 ix5 ix6 ix7 ix8
  go_wp2_with fail
  refine bodyPost_ret (v := .tuple #[.agg #[.int .i64 0, .string ⟨#[]⟩, .slice none 0 0, .int .i64 0, .int .i64 0], .bool false]) (by simp [results, Tryz.results47, go_sem]) rfl ⟨rfl, ?_⟩
  repeat (first | exact Below.refl _ _ | refine Below.drew ?_ | refine Below.alloc ?_ (by simp; try omega) _ | refine Below.setCell ?_ (by simp; try omega) _)

set_option maxRecDepth 100000 in
/-- A line whose first word is 'drop', of 1 part(s): it is no step. -/
theorem step_drop1 (line : ByteArray) (w : World) (hw : WordsAt w) (h0 : 0 < w.heap.size) (hsh : ∀ W : World, Below w.heap.size w W → W.ShapedOpen Tryz.prog) (hs : Splits line [⟨#[100, 114, 111, 112]⟩]) :
    Calls Tryz.prog 47 #[.string line] w fun e w' => e = .returned (.tuple #[.agg #[.int .i64 0, .string ⟨#[]⟩, .slice none 0 0, .int .i64 0, .int .i64 0], .bool false]) ∧ Below w.heap.size w w' := by
  obtain ⟨a0, a1, a2, a3, a4, a5, a6, a7, a8⟩ := hw
  have ix0 : ∀ w : World, (Instr.index 94 (.agg #[.string ⟨#[]⟩, .string ⟨#[112, 117, 116]⟩, .string ⟨#[100, 114, 111, 112]⟩, .string ⟨#[98, 117, 105, 108, 100]⟩, .string ⟨#[112, 117, 98, 108, 105, 115, 104]⟩, .string ⟨#[114, 101, 97, 100]⟩, .string ⟨#[102, 117, 115, 101]⟩, .string ⟨#[99, 114, 97, 115, 104]⟩, .string ⟨#[115, 119, 101, 101, 112]⟩]) (.int .i64 0)).run Tryz.prog w = .ok (.string ⟨#[]⟩) w := fun _ => by kernel_rfl
  have ix1 : ∀ w : World, (Instr.index 94 (.agg #[.string ⟨#[]⟩, .string ⟨#[112, 117, 116]⟩, .string ⟨#[100, 114, 111, 112]⟩, .string ⟨#[98, 117, 105, 108, 100]⟩, .string ⟨#[112, 117, 98, 108, 105, 115, 104]⟩, .string ⟨#[114, 101, 97, 100]⟩, .string ⟨#[102, 117, 115, 101]⟩, .string ⟨#[99, 114, 97, 115, 104]⟩, .string ⟨#[115, 119, 101, 101, 112]⟩]) (.int .i64 1)).run Tryz.prog w = .ok (.string ⟨#[112, 117, 116]⟩) w := fun _ => by kernel_rfl
  have ix2 : ∀ w : World, (Instr.index 94 (.agg #[.string ⟨#[]⟩, .string ⟨#[112, 117, 116]⟩, .string ⟨#[100, 114, 111, 112]⟩, .string ⟨#[98, 117, 105, 108, 100]⟩, .string ⟨#[112, 117, 98, 108, 105, 115, 104]⟩, .string ⟨#[114, 101, 97, 100]⟩, .string ⟨#[102, 117, 115, 101]⟩, .string ⟨#[99, 114, 97, 115, 104]⟩, .string ⟨#[115, 119, 101, 101, 112]⟩]) (.int .i64 2)).run Tryz.prog w = .ok (.string ⟨#[100, 114, 111, 112]⟩) w := fun _ => by kernel_rfl
  have ix3 : ∀ w : World, (Instr.index 94 (.agg #[.string ⟨#[]⟩, .string ⟨#[112, 117, 116]⟩, .string ⟨#[100, 114, 111, 112]⟩, .string ⟨#[98, 117, 105, 108, 100]⟩, .string ⟨#[112, 117, 98, 108, 105, 115, 104]⟩, .string ⟨#[114, 101, 97, 100]⟩, .string ⟨#[102, 117, 115, 101]⟩, .string ⟨#[99, 114, 97, 115, 104]⟩, .string ⟨#[115, 119, 101, 101, 112]⟩]) (.int .i64 3)).run Tryz.prog w = .ok (.string ⟨#[98, 117, 105, 108, 100]⟩) w := fun _ => by kernel_rfl
  have ix4 : ∀ w : World, (Instr.index 94 (.agg #[.string ⟨#[]⟩, .string ⟨#[112, 117, 116]⟩, .string ⟨#[100, 114, 111, 112]⟩, .string ⟨#[98, 117, 105, 108, 100]⟩, .string ⟨#[112, 117, 98, 108, 105, 115, 104]⟩, .string ⟨#[114, 101, 97, 100]⟩, .string ⟨#[102, 117, 115, 101]⟩, .string ⟨#[99, 114, 97, 115, 104]⟩, .string ⟨#[115, 119, 101, 101, 112]⟩]) (.int .i64 4)).run Tryz.prog w = .ok (.string ⟨#[112, 117, 98, 108, 105, 115, 104]⟩) w := fun _ => by kernel_rfl
  have ix5 : ∀ w : World, (Instr.index 94 (.agg #[.string ⟨#[]⟩, .string ⟨#[112, 117, 116]⟩, .string ⟨#[100, 114, 111, 112]⟩, .string ⟨#[98, 117, 105, 108, 100]⟩, .string ⟨#[112, 117, 98, 108, 105, 115, 104]⟩, .string ⟨#[114, 101, 97, 100]⟩, .string ⟨#[102, 117, 115, 101]⟩, .string ⟨#[99, 114, 97, 115, 104]⟩, .string ⟨#[115, 119, 101, 101, 112]⟩]) (.int .i64 5)).run Tryz.prog w = .ok (.string ⟨#[114, 101, 97, 100]⟩) w := fun _ => by kernel_rfl
  have ix6 : ∀ w : World, (Instr.index 94 (.agg #[.string ⟨#[]⟩, .string ⟨#[112, 117, 116]⟩, .string ⟨#[100, 114, 111, 112]⟩, .string ⟨#[98, 117, 105, 108, 100]⟩, .string ⟨#[112, 117, 98, 108, 105, 115, 104]⟩, .string ⟨#[114, 101, 97, 100]⟩, .string ⟨#[102, 117, 115, 101]⟩, .string ⟨#[99, 114, 97, 115, 104]⟩, .string ⟨#[115, 119, 101, 101, 112]⟩]) (.int .i64 6)).run Tryz.prog w = .ok (.string ⟨#[102, 117, 115, 101]⟩) w := fun _ => by kernel_rfl
  have ix7 : ∀ w : World, (Instr.index 94 (.agg #[.string ⟨#[]⟩, .string ⟨#[112, 117, 116]⟩, .string ⟨#[100, 114, 111, 112]⟩, .string ⟨#[98, 117, 105, 108, 100]⟩, .string ⟨#[112, 117, 98, 108, 105, 115, 104]⟩, .string ⟨#[114, 101, 97, 100]⟩, .string ⟨#[102, 117, 115, 101]⟩, .string ⟨#[99, 114, 97, 115, 104]⟩, .string ⟨#[115, 119, 101, 101, 112]⟩]) (.int .i64 7)).run Tryz.prog w = .ok (.string ⟨#[99, 114, 97, 115, 104]⟩) w := fun _ => by kernel_rfl
  have ix8 : ∀ w : World, (Instr.index 94 (.agg #[.string ⟨#[]⟩, .string ⟨#[112, 117, 116]⟩, .string ⟨#[100, 114, 111, 112]⟩, .string ⟨#[98, 117, 105, 108, 100]⟩, .string ⟨#[112, 117, 98, 108, 105, 115, 104]⟩, .string ⟨#[114, 101, 97, 100]⟩, .string ⟨#[102, 117, 115, 101]⟩, .string ⟨#[99, 114, 97, 115, 104]⟩, .string ⟨#[115, 119, 101, 101, 112]⟩]) (.int .i64 8)).run Tryz.prog w = .ok (.string ⟨#[115, 119, 101, 101, 112]⟩) w := fun _ => by kernel_rfl
  have hmm := @run_makeMap Tryz.prog
  obtain ⟨cap, hs⟩ := hs (w.alloc (.cells #[.int .i64 0, .string ⟨#[]⟩, .slice none 0 0, .int .i64 0, .int .i64 0] 24)) (hsh _ ((Below.refl _ _).alloc (Nat.le_refl _) _))
  go_enter Tryz.func47, Tryz.ntmps47
  go_wp2_with fail
  refine hs.mono ?_
  rintro e w1 ⟨rfl, cs, rfl, hc⟩
  have p0 := hc 0 (by simp)
  simp only [List.getElem_cons_zero] at p0
  clear hc hs
  go_wp2_with fail
  clear a0 a1 a2 a3 a4 a5 a6 a7 a8
  refine wp_loop_rounds 10 ?_
  iterate 9 (rw [rounds_succ]; go_wp2_with fail)
  rw [rounds_succ]
  go_upto_region 9 with (fail)
  have in1 := run_put (((w.alloc (.cells #[.int .i64 0, .string ⟨#[]⟩, .slice none 0 0, .int .i64 0, .int .i64 0] 24)).alloc (.cells cs 9)).alloc (.cells #[.int .i64 2, .string ⟨#[]⟩, .slice none 0 0, .int .i64 0, .int .i64 0] 24)) #[] 0 1 3 (by rfl)
  have in2 := run_put (((w.alloc (.cells #[.int .i64 0, .string ⟨#[]⟩, .slice none 0 0, .int .i64 0, .int .i64 0] 24)).alloc (.cells cs 9)).alloc (.cells #[.int .i64 2, .string ⟨#[]⟩, .slice none 0 0, .int .i64 0, .int .i64 0] 24)) #[⟨.int .i64 1, .int .i64 3, 0⟩] 1 2 2 (by rfl)
  have in3 := run_put (((w.alloc (.cells #[.int .i64 0, .string ⟨#[]⟩, .slice none 0 0, .int .i64 0, .int .i64 0] 24)).alloc (.cells cs 9)).alloc (.cells #[.int .i64 2, .string ⟨#[]⟩, .slice none 0 0, .int .i64 0, .int .i64 0] 24)) #[⟨.int .i64 1, .int .i64 3, 0⟩, ⟨.int .i64 2, .int .i64 2, 1⟩] 2 3 1 (by rfl)
  have in4 := run_put (((w.alloc (.cells #[.int .i64 0, .string ⟨#[]⟩, .slice none 0 0, .int .i64 0, .int .i64 0] 24)).alloc (.cells cs 9)).alloc (.cells #[.int .i64 2, .string ⟨#[]⟩, .slice none 0 0, .int .i64 0, .int .i64 0] 24)) #[⟨.int .i64 1, .int .i64 3, 0⟩, ⟨.int .i64 2, .int .i64 2, 1⟩, ⟨.int .i64 3, .int .i64 1, 2⟩] 3 4 1 (by rfl)
  have in5 := run_put (((w.alloc (.cells #[.int .i64 0, .string ⟨#[]⟩, .slice none 0 0, .int .i64 0, .int .i64 0] 24)).alloc (.cells cs 9)).alloc (.cells #[.int .i64 2, .string ⟨#[]⟩, .slice none 0 0, .int .i64 0, .int .i64 0] 24)) #[⟨.int .i64 1, .int .i64 3, 0⟩, ⟨.int .i64 2, .int .i64 2, 1⟩, ⟨.int .i64 3, .int .i64 1, 2⟩, ⟨.int .i64 4, .int .i64 1, 3⟩] 4 5 2 (by rfl)
  have in6 := run_put (((w.alloc (.cells #[.int .i64 0, .string ⟨#[]⟩, .slice none 0 0, .int .i64 0, .int .i64 0] 24)).alloc (.cells cs 9)).alloc (.cells #[.int .i64 2, .string ⟨#[]⟩, .slice none 0 0, .int .i64 0, .int .i64 0] 24)) #[⟨.int .i64 1, .int .i64 3, 0⟩, ⟨.int .i64 2, .int .i64 2, 1⟩, ⟨.int .i64 3, .int .i64 1, 2⟩, ⟨.int .i64 4, .int .i64 1, 3⟩, ⟨.int .i64 5, .int .i64 2, 4⟩] 5 6 2 (by rfl)
  have in7 := run_put (((w.alloc (.cells #[.int .i64 0, .string ⟨#[]⟩, .slice none 0 0, .int .i64 0, .int .i64 0] 24)).alloc (.cells cs 9)).alloc (.cells #[.int .i64 2, .string ⟨#[]⟩, .slice none 0 0, .int .i64 0, .int .i64 0] 24)) #[⟨.int .i64 1, .int .i64 3, 0⟩, ⟨.int .i64 2, .int .i64 2, 1⟩, ⟨.int .i64 3, .int .i64 1, 2⟩, ⟨.int .i64 4, .int .i64 1, 3⟩, ⟨.int .i64 5, .int .i64 2, 4⟩, ⟨.int .i64 6, .int .i64 2, 5⟩] 6 7 3 (by rfl)
  have in8 := run_put (((w.alloc (.cells #[.int .i64 0, .string ⟨#[]⟩, .slice none 0 0, .int .i64 0, .int .i64 0] 24)).alloc (.cells cs 9)).alloc (.cells #[.int .i64 2, .string ⟨#[]⟩, .slice none 0 0, .int .i64 0, .int .i64 0] 24)) #[⟨.int .i64 1, .int .i64 3, 0⟩, ⟨.int .i64 2, .int .i64 2, 1⟩, ⟨.int .i64 3, .int .i64 1, 2⟩, ⟨.int .i64 4, .int .i64 1, 3⟩, ⟨.int .i64 5, .int .i64 2, 4⟩, ⟨.int .i64 6, .int .i64 2, 5⟩, ⟨.int .i64 7, .int .i64 3, 6⟩] 7 8 1 (by rfl)
  have gt := run_get (((w.alloc (.cells #[.int .i64 0, .string ⟨#[]⟩, .slice none 0 0, .int .i64 0, .int .i64 0] 24)).alloc (.cells cs 9)).alloc (.cells #[.int .i64 2, .string ⟨#[]⟩, .slice none 0 0, .int .i64 0, .int .i64 0] 24)) #[⟨.int .i64 1, .int .i64 3, 0⟩, ⟨.int .i64 2, .int .i64 2, 1⟩, ⟨.int .i64 3, .int .i64 1, 2⟩, ⟨.int .i64 4, .int .i64 1, 3⟩, ⟨.int .i64 5, .int .i64 2, 4⟩, ⟨.int .i64 6, .int .i64 2, 5⟩, ⟨.int .i64 7, .int .i64 3, 6⟩, ⟨.int .i64 8, .int .i64 1, 7⟩] 8 2 2 1 (by rfl)
  simp only [World.size_alloc, List.push_toArray, List.cons_append, List.nil_append, Nat.reduceAdd] at in1 in2 in3 in4 in5 in6 in7 in8 gt
  clear ix0 ix1 ix2 ix3 ix4 ix5 ix6 ix7 ix8
  go_wp2_with fail
  refine bodyPost_ret (v := .tuple #[.agg #[.int .i64 0, .string ⟨#[]⟩, .slice none 0 0, .int .i64 0, .int .i64 0], .bool false]) (by simp [results, Tryz.results47, go_sem]) rfl ⟨rfl, ?_⟩
  repeat (first | exact Below.refl _ _ | refine Below.drew ?_ | refine Below.alloc ?_ (by simp; try omega) _ | refine Below.setCell ?_ (by simp; try omega) _)

set_option maxRecDepth 100000 in
/-- A line whose first word is 'drop', of 3 part(s): it is no step. -/
theorem step_drop3 (q1 q2 : ByteArray) (line : ByteArray) (w : World) (hw : WordsAt w) (h0 : 0 < w.heap.size) (hsh : ∀ W : World, Below w.heap.size w W → W.ShapedOpen Tryz.prog) (hs : Splits line [⟨#[100, 114, 111, 112]⟩, q1, q2]) :
    Calls Tryz.prog 47 #[.string line] w fun e w' => e = .returned (.tuple #[.agg #[.int .i64 0, .string ⟨#[]⟩, .slice none 0 0, .int .i64 0, .int .i64 0], .bool false]) ∧ Below w.heap.size w w' := by
  obtain ⟨a0, a1, a2, a3, a4, a5, a6, a7, a8⟩ := hw
  have ix0 : ∀ w : World, (Instr.index 94 (.agg #[.string ⟨#[]⟩, .string ⟨#[112, 117, 116]⟩, .string ⟨#[100, 114, 111, 112]⟩, .string ⟨#[98, 117, 105, 108, 100]⟩, .string ⟨#[112, 117, 98, 108, 105, 115, 104]⟩, .string ⟨#[114, 101, 97, 100]⟩, .string ⟨#[102, 117, 115, 101]⟩, .string ⟨#[99, 114, 97, 115, 104]⟩, .string ⟨#[115, 119, 101, 101, 112]⟩]) (.int .i64 0)).run Tryz.prog w = .ok (.string ⟨#[]⟩) w := fun _ => by kernel_rfl
  have ix1 : ∀ w : World, (Instr.index 94 (.agg #[.string ⟨#[]⟩, .string ⟨#[112, 117, 116]⟩, .string ⟨#[100, 114, 111, 112]⟩, .string ⟨#[98, 117, 105, 108, 100]⟩, .string ⟨#[112, 117, 98, 108, 105, 115, 104]⟩, .string ⟨#[114, 101, 97, 100]⟩, .string ⟨#[102, 117, 115, 101]⟩, .string ⟨#[99, 114, 97, 115, 104]⟩, .string ⟨#[115, 119, 101, 101, 112]⟩]) (.int .i64 1)).run Tryz.prog w = .ok (.string ⟨#[112, 117, 116]⟩) w := fun _ => by kernel_rfl
  have ix2 : ∀ w : World, (Instr.index 94 (.agg #[.string ⟨#[]⟩, .string ⟨#[112, 117, 116]⟩, .string ⟨#[100, 114, 111, 112]⟩, .string ⟨#[98, 117, 105, 108, 100]⟩, .string ⟨#[112, 117, 98, 108, 105, 115, 104]⟩, .string ⟨#[114, 101, 97, 100]⟩, .string ⟨#[102, 117, 115, 101]⟩, .string ⟨#[99, 114, 97, 115, 104]⟩, .string ⟨#[115, 119, 101, 101, 112]⟩]) (.int .i64 2)).run Tryz.prog w = .ok (.string ⟨#[100, 114, 111, 112]⟩) w := fun _ => by kernel_rfl
  have ix3 : ∀ w : World, (Instr.index 94 (.agg #[.string ⟨#[]⟩, .string ⟨#[112, 117, 116]⟩, .string ⟨#[100, 114, 111, 112]⟩, .string ⟨#[98, 117, 105, 108, 100]⟩, .string ⟨#[112, 117, 98, 108, 105, 115, 104]⟩, .string ⟨#[114, 101, 97, 100]⟩, .string ⟨#[102, 117, 115, 101]⟩, .string ⟨#[99, 114, 97, 115, 104]⟩, .string ⟨#[115, 119, 101, 101, 112]⟩]) (.int .i64 3)).run Tryz.prog w = .ok (.string ⟨#[98, 117, 105, 108, 100]⟩) w := fun _ => by kernel_rfl
  have ix4 : ∀ w : World, (Instr.index 94 (.agg #[.string ⟨#[]⟩, .string ⟨#[112, 117, 116]⟩, .string ⟨#[100, 114, 111, 112]⟩, .string ⟨#[98, 117, 105, 108, 100]⟩, .string ⟨#[112, 117, 98, 108, 105, 115, 104]⟩, .string ⟨#[114, 101, 97, 100]⟩, .string ⟨#[102, 117, 115, 101]⟩, .string ⟨#[99, 114, 97, 115, 104]⟩, .string ⟨#[115, 119, 101, 101, 112]⟩]) (.int .i64 4)).run Tryz.prog w = .ok (.string ⟨#[112, 117, 98, 108, 105, 115, 104]⟩) w := fun _ => by kernel_rfl
  have ix5 : ∀ w : World, (Instr.index 94 (.agg #[.string ⟨#[]⟩, .string ⟨#[112, 117, 116]⟩, .string ⟨#[100, 114, 111, 112]⟩, .string ⟨#[98, 117, 105, 108, 100]⟩, .string ⟨#[112, 117, 98, 108, 105, 115, 104]⟩, .string ⟨#[114, 101, 97, 100]⟩, .string ⟨#[102, 117, 115, 101]⟩, .string ⟨#[99, 114, 97, 115, 104]⟩, .string ⟨#[115, 119, 101, 101, 112]⟩]) (.int .i64 5)).run Tryz.prog w = .ok (.string ⟨#[114, 101, 97, 100]⟩) w := fun _ => by kernel_rfl
  have ix6 : ∀ w : World, (Instr.index 94 (.agg #[.string ⟨#[]⟩, .string ⟨#[112, 117, 116]⟩, .string ⟨#[100, 114, 111, 112]⟩, .string ⟨#[98, 117, 105, 108, 100]⟩, .string ⟨#[112, 117, 98, 108, 105, 115, 104]⟩, .string ⟨#[114, 101, 97, 100]⟩, .string ⟨#[102, 117, 115, 101]⟩, .string ⟨#[99, 114, 97, 115, 104]⟩, .string ⟨#[115, 119, 101, 101, 112]⟩]) (.int .i64 6)).run Tryz.prog w = .ok (.string ⟨#[102, 117, 115, 101]⟩) w := fun _ => by kernel_rfl
  have ix7 : ∀ w : World, (Instr.index 94 (.agg #[.string ⟨#[]⟩, .string ⟨#[112, 117, 116]⟩, .string ⟨#[100, 114, 111, 112]⟩, .string ⟨#[98, 117, 105, 108, 100]⟩, .string ⟨#[112, 117, 98, 108, 105, 115, 104]⟩, .string ⟨#[114, 101, 97, 100]⟩, .string ⟨#[102, 117, 115, 101]⟩, .string ⟨#[99, 114, 97, 115, 104]⟩, .string ⟨#[115, 119, 101, 101, 112]⟩]) (.int .i64 7)).run Tryz.prog w = .ok (.string ⟨#[99, 114, 97, 115, 104]⟩) w := fun _ => by kernel_rfl
  have ix8 : ∀ w : World, (Instr.index 94 (.agg #[.string ⟨#[]⟩, .string ⟨#[112, 117, 116]⟩, .string ⟨#[100, 114, 111, 112]⟩, .string ⟨#[98, 117, 105, 108, 100]⟩, .string ⟨#[112, 117, 98, 108, 105, 115, 104]⟩, .string ⟨#[114, 101, 97, 100]⟩, .string ⟨#[102, 117, 115, 101]⟩, .string ⟨#[99, 114, 97, 115, 104]⟩, .string ⟨#[115, 119, 101, 101, 112]⟩]) (.int .i64 8)).run Tryz.prog w = .ok (.string ⟨#[115, 119, 101, 101, 112]⟩) w := fun _ => by kernel_rfl
  have hmm := @run_makeMap Tryz.prog
  obtain ⟨cap, hs⟩ := hs (w.alloc (.cells #[.int .i64 0, .string ⟨#[]⟩, .slice none 0 0, .int .i64 0, .int .i64 0] 24)) (hsh _ ((Below.refl _ _).alloc (Nat.le_refl _) _))
  go_enter Tryz.func47, Tryz.ntmps47
  go_wp2_with fail
  refine hs.mono ?_
  rintro e w1 ⟨rfl, cs, rfl, hc⟩
  have p0 := hc 0 (by simp)
  have p1 := hc 1 (by simp)
  have p2 := hc 2 (by simp)
  simp only [List.getElem_cons_zero, List.getElem_cons_succ] at p0 p1 p2
  clear hc hs
  go_wp2_with fail
  clear a0 a1 a2 a3 a4 a5 a6 a7 a8
  refine wp_loop_rounds 10 ?_
  iterate 9 (rw [rounds_succ]; go_wp2_with fail)
  rw [rounds_succ]
  go_upto_region 9 with (fail)
  have in1 := run_put (((w.alloc (.cells #[.int .i64 0, .string ⟨#[]⟩, .slice none 0 0, .int .i64 0, .int .i64 0] 24)).alloc (.cells cs 9)).alloc (.cells #[.int .i64 2, .string ⟨#[]⟩, .slice none 0 0, .int .i64 0, .int .i64 0] 24)) #[] 0 1 3 (by rfl)
  have in2 := run_put (((w.alloc (.cells #[.int .i64 0, .string ⟨#[]⟩, .slice none 0 0, .int .i64 0, .int .i64 0] 24)).alloc (.cells cs 9)).alloc (.cells #[.int .i64 2, .string ⟨#[]⟩, .slice none 0 0, .int .i64 0, .int .i64 0] 24)) #[⟨.int .i64 1, .int .i64 3, 0⟩] 1 2 2 (by rfl)
  have in3 := run_put (((w.alloc (.cells #[.int .i64 0, .string ⟨#[]⟩, .slice none 0 0, .int .i64 0, .int .i64 0] 24)).alloc (.cells cs 9)).alloc (.cells #[.int .i64 2, .string ⟨#[]⟩, .slice none 0 0, .int .i64 0, .int .i64 0] 24)) #[⟨.int .i64 1, .int .i64 3, 0⟩, ⟨.int .i64 2, .int .i64 2, 1⟩] 2 3 1 (by rfl)
  have in4 := run_put (((w.alloc (.cells #[.int .i64 0, .string ⟨#[]⟩, .slice none 0 0, .int .i64 0, .int .i64 0] 24)).alloc (.cells cs 9)).alloc (.cells #[.int .i64 2, .string ⟨#[]⟩, .slice none 0 0, .int .i64 0, .int .i64 0] 24)) #[⟨.int .i64 1, .int .i64 3, 0⟩, ⟨.int .i64 2, .int .i64 2, 1⟩, ⟨.int .i64 3, .int .i64 1, 2⟩] 3 4 1 (by rfl)
  have in5 := run_put (((w.alloc (.cells #[.int .i64 0, .string ⟨#[]⟩, .slice none 0 0, .int .i64 0, .int .i64 0] 24)).alloc (.cells cs 9)).alloc (.cells #[.int .i64 2, .string ⟨#[]⟩, .slice none 0 0, .int .i64 0, .int .i64 0] 24)) #[⟨.int .i64 1, .int .i64 3, 0⟩, ⟨.int .i64 2, .int .i64 2, 1⟩, ⟨.int .i64 3, .int .i64 1, 2⟩, ⟨.int .i64 4, .int .i64 1, 3⟩] 4 5 2 (by rfl)
  have in6 := run_put (((w.alloc (.cells #[.int .i64 0, .string ⟨#[]⟩, .slice none 0 0, .int .i64 0, .int .i64 0] 24)).alloc (.cells cs 9)).alloc (.cells #[.int .i64 2, .string ⟨#[]⟩, .slice none 0 0, .int .i64 0, .int .i64 0] 24)) #[⟨.int .i64 1, .int .i64 3, 0⟩, ⟨.int .i64 2, .int .i64 2, 1⟩, ⟨.int .i64 3, .int .i64 1, 2⟩, ⟨.int .i64 4, .int .i64 1, 3⟩, ⟨.int .i64 5, .int .i64 2, 4⟩] 5 6 2 (by rfl)
  have in7 := run_put (((w.alloc (.cells #[.int .i64 0, .string ⟨#[]⟩, .slice none 0 0, .int .i64 0, .int .i64 0] 24)).alloc (.cells cs 9)).alloc (.cells #[.int .i64 2, .string ⟨#[]⟩, .slice none 0 0, .int .i64 0, .int .i64 0] 24)) #[⟨.int .i64 1, .int .i64 3, 0⟩, ⟨.int .i64 2, .int .i64 2, 1⟩, ⟨.int .i64 3, .int .i64 1, 2⟩, ⟨.int .i64 4, .int .i64 1, 3⟩, ⟨.int .i64 5, .int .i64 2, 4⟩, ⟨.int .i64 6, .int .i64 2, 5⟩] 6 7 3 (by rfl)
  have in8 := run_put (((w.alloc (.cells #[.int .i64 0, .string ⟨#[]⟩, .slice none 0 0, .int .i64 0, .int .i64 0] 24)).alloc (.cells cs 9)).alloc (.cells #[.int .i64 2, .string ⟨#[]⟩, .slice none 0 0, .int .i64 0, .int .i64 0] 24)) #[⟨.int .i64 1, .int .i64 3, 0⟩, ⟨.int .i64 2, .int .i64 2, 1⟩, ⟨.int .i64 3, .int .i64 1, 2⟩, ⟨.int .i64 4, .int .i64 1, 3⟩, ⟨.int .i64 5, .int .i64 2, 4⟩, ⟨.int .i64 6, .int .i64 2, 5⟩, ⟨.int .i64 7, .int .i64 3, 6⟩] 7 8 1 (by rfl)
  have gt := run_get (((w.alloc (.cells #[.int .i64 0, .string ⟨#[]⟩, .slice none 0 0, .int .i64 0, .int .i64 0] 24)).alloc (.cells cs 9)).alloc (.cells #[.int .i64 2, .string ⟨#[]⟩, .slice none 0 0, .int .i64 0, .int .i64 0] 24)) #[⟨.int .i64 1, .int .i64 3, 0⟩, ⟨.int .i64 2, .int .i64 2, 1⟩, ⟨.int .i64 3, .int .i64 1, 2⟩, ⟨.int .i64 4, .int .i64 1, 3⟩, ⟨.int .i64 5, .int .i64 2, 4⟩, ⟨.int .i64 6, .int .i64 2, 5⟩, ⟨.int .i64 7, .int .i64 3, 6⟩, ⟨.int .i64 8, .int .i64 1, 7⟩] 8 2 2 1 (by rfl)
  simp only [World.size_alloc, List.push_toArray, List.cons_append, List.nil_append, Nat.reduceAdd] at in1 in2 in3 in4 in5 in6 in7 in8 gt
  clear ix0 ix1 ix2 ix3 ix4 ix5 ix6 ix7 ix8
  go_wp2_with fail
  refine bodyPost_ret (v := .tuple #[.agg #[.int .i64 0, .string ⟨#[]⟩, .slice none 0 0, .int .i64 0, .int .i64 0], .bool false]) (by simp [results, Tryz.results47, go_sem]) rfl ⟨rfl, ?_⟩
  repeat (first | exact Below.refl _ _ | refine Below.drew ?_ | refine Below.alloc ?_ (by simp; try omega) _ | refine Below.setCell ?_ (by simp; try omega) _)

set_option maxRecDepth 100000 in
/-- A line whose first word is 'build', of 2 part(s): it is no step. -/
theorem step_build2 (q1 : ByteArray) (line : ByteArray) (w : World) (hw : WordsAt w) (h0 : 0 < w.heap.size) (hsh : ∀ W : World, Below w.heap.size w W → W.ShapedOpen Tryz.prog) (hs : Splits line [⟨#[98, 117, 105, 108, 100]⟩, q1]) :
    Calls Tryz.prog 47 #[.string line] w fun e w' => e = .returned (.tuple #[.agg #[.int .i64 0, .string ⟨#[]⟩, .slice none 0 0, .int .i64 0, .int .i64 0], .bool false]) ∧ Below w.heap.size w w' := by
  obtain ⟨a0, a1, a2, a3, a4, a5, a6, a7, a8⟩ := hw
  have ix0 : ∀ w : World, (Instr.index 94 (.agg #[.string ⟨#[]⟩, .string ⟨#[112, 117, 116]⟩, .string ⟨#[100, 114, 111, 112]⟩, .string ⟨#[98, 117, 105, 108, 100]⟩, .string ⟨#[112, 117, 98, 108, 105, 115, 104]⟩, .string ⟨#[114, 101, 97, 100]⟩, .string ⟨#[102, 117, 115, 101]⟩, .string ⟨#[99, 114, 97, 115, 104]⟩, .string ⟨#[115, 119, 101, 101, 112]⟩]) (.int .i64 0)).run Tryz.prog w = .ok (.string ⟨#[]⟩) w := fun _ => by kernel_rfl
  have ix1 : ∀ w : World, (Instr.index 94 (.agg #[.string ⟨#[]⟩, .string ⟨#[112, 117, 116]⟩, .string ⟨#[100, 114, 111, 112]⟩, .string ⟨#[98, 117, 105, 108, 100]⟩, .string ⟨#[112, 117, 98, 108, 105, 115, 104]⟩, .string ⟨#[114, 101, 97, 100]⟩, .string ⟨#[102, 117, 115, 101]⟩, .string ⟨#[99, 114, 97, 115, 104]⟩, .string ⟨#[115, 119, 101, 101, 112]⟩]) (.int .i64 1)).run Tryz.prog w = .ok (.string ⟨#[112, 117, 116]⟩) w := fun _ => by kernel_rfl
  have ix2 : ∀ w : World, (Instr.index 94 (.agg #[.string ⟨#[]⟩, .string ⟨#[112, 117, 116]⟩, .string ⟨#[100, 114, 111, 112]⟩, .string ⟨#[98, 117, 105, 108, 100]⟩, .string ⟨#[112, 117, 98, 108, 105, 115, 104]⟩, .string ⟨#[114, 101, 97, 100]⟩, .string ⟨#[102, 117, 115, 101]⟩, .string ⟨#[99, 114, 97, 115, 104]⟩, .string ⟨#[115, 119, 101, 101, 112]⟩]) (.int .i64 2)).run Tryz.prog w = .ok (.string ⟨#[100, 114, 111, 112]⟩) w := fun _ => by kernel_rfl
  have ix3 : ∀ w : World, (Instr.index 94 (.agg #[.string ⟨#[]⟩, .string ⟨#[112, 117, 116]⟩, .string ⟨#[100, 114, 111, 112]⟩, .string ⟨#[98, 117, 105, 108, 100]⟩, .string ⟨#[112, 117, 98, 108, 105, 115, 104]⟩, .string ⟨#[114, 101, 97, 100]⟩, .string ⟨#[102, 117, 115, 101]⟩, .string ⟨#[99, 114, 97, 115, 104]⟩, .string ⟨#[115, 119, 101, 101, 112]⟩]) (.int .i64 3)).run Tryz.prog w = .ok (.string ⟨#[98, 117, 105, 108, 100]⟩) w := fun _ => by kernel_rfl
  have ix4 : ∀ w : World, (Instr.index 94 (.agg #[.string ⟨#[]⟩, .string ⟨#[112, 117, 116]⟩, .string ⟨#[100, 114, 111, 112]⟩, .string ⟨#[98, 117, 105, 108, 100]⟩, .string ⟨#[112, 117, 98, 108, 105, 115, 104]⟩, .string ⟨#[114, 101, 97, 100]⟩, .string ⟨#[102, 117, 115, 101]⟩, .string ⟨#[99, 114, 97, 115, 104]⟩, .string ⟨#[115, 119, 101, 101, 112]⟩]) (.int .i64 4)).run Tryz.prog w = .ok (.string ⟨#[112, 117, 98, 108, 105, 115, 104]⟩) w := fun _ => by kernel_rfl
  have ix5 : ∀ w : World, (Instr.index 94 (.agg #[.string ⟨#[]⟩, .string ⟨#[112, 117, 116]⟩, .string ⟨#[100, 114, 111, 112]⟩, .string ⟨#[98, 117, 105, 108, 100]⟩, .string ⟨#[112, 117, 98, 108, 105, 115, 104]⟩, .string ⟨#[114, 101, 97, 100]⟩, .string ⟨#[102, 117, 115, 101]⟩, .string ⟨#[99, 114, 97, 115, 104]⟩, .string ⟨#[115, 119, 101, 101, 112]⟩]) (.int .i64 5)).run Tryz.prog w = .ok (.string ⟨#[114, 101, 97, 100]⟩) w := fun _ => by kernel_rfl
  have ix6 : ∀ w : World, (Instr.index 94 (.agg #[.string ⟨#[]⟩, .string ⟨#[112, 117, 116]⟩, .string ⟨#[100, 114, 111, 112]⟩, .string ⟨#[98, 117, 105, 108, 100]⟩, .string ⟨#[112, 117, 98, 108, 105, 115, 104]⟩, .string ⟨#[114, 101, 97, 100]⟩, .string ⟨#[102, 117, 115, 101]⟩, .string ⟨#[99, 114, 97, 115, 104]⟩, .string ⟨#[115, 119, 101, 101, 112]⟩]) (.int .i64 6)).run Tryz.prog w = .ok (.string ⟨#[102, 117, 115, 101]⟩) w := fun _ => by kernel_rfl
  have ix7 : ∀ w : World, (Instr.index 94 (.agg #[.string ⟨#[]⟩, .string ⟨#[112, 117, 116]⟩, .string ⟨#[100, 114, 111, 112]⟩, .string ⟨#[98, 117, 105, 108, 100]⟩, .string ⟨#[112, 117, 98, 108, 105, 115, 104]⟩, .string ⟨#[114, 101, 97, 100]⟩, .string ⟨#[102, 117, 115, 101]⟩, .string ⟨#[99, 114, 97, 115, 104]⟩, .string ⟨#[115, 119, 101, 101, 112]⟩]) (.int .i64 7)).run Tryz.prog w = .ok (.string ⟨#[99, 114, 97, 115, 104]⟩) w := fun _ => by kernel_rfl
  have ix8 : ∀ w : World, (Instr.index 94 (.agg #[.string ⟨#[]⟩, .string ⟨#[112, 117, 116]⟩, .string ⟨#[100, 114, 111, 112]⟩, .string ⟨#[98, 117, 105, 108, 100]⟩, .string ⟨#[112, 117, 98, 108, 105, 115, 104]⟩, .string ⟨#[114, 101, 97, 100]⟩, .string ⟨#[102, 117, 115, 101]⟩, .string ⟨#[99, 114, 97, 115, 104]⟩, .string ⟨#[115, 119, 101, 101, 112]⟩]) (.int .i64 8)).run Tryz.prog w = .ok (.string ⟨#[115, 119, 101, 101, 112]⟩) w := fun _ => by kernel_rfl
  have hmm := @run_makeMap Tryz.prog
  obtain ⟨cap, hs⟩ := hs (w.alloc (.cells #[.int .i64 0, .string ⟨#[]⟩, .slice none 0 0, .int .i64 0, .int .i64 0] 24)) (hsh _ ((Below.refl _ _).alloc (Nat.le_refl _) _))
  go_enter Tryz.func47, Tryz.ntmps47
  go_wp2_with fail
  refine hs.mono ?_
  rintro e w1 ⟨rfl, cs, rfl, hc⟩
  have p0 := hc 0 (by simp)
  have p1 := hc 1 (by simp)
  simp only [List.getElem_cons_zero, List.getElem_cons_succ] at p0 p1
  clear hc hs
  go_wp2_with fail
  clear a0 a1 a2 a3 a4 a5 a6 a7 a8
  refine wp_loop_rounds 10 ?_
  iterate 9 (rw [rounds_succ]; go_wp2_with fail)
  rw [rounds_succ]
  go_upto_region 9 with (fail)
  have in1 := run_put (((w.alloc (.cells #[.int .i64 0, .string ⟨#[]⟩, .slice none 0 0, .int .i64 0, .int .i64 0] 24)).alloc (.cells cs 9)).alloc (.cells #[.int .i64 3, .string ⟨#[]⟩, .slice none 0 0, .int .i64 0, .int .i64 0] 24)) #[] 0 1 3 (by rfl)
  have in2 := run_put (((w.alloc (.cells #[.int .i64 0, .string ⟨#[]⟩, .slice none 0 0, .int .i64 0, .int .i64 0] 24)).alloc (.cells cs 9)).alloc (.cells #[.int .i64 3, .string ⟨#[]⟩, .slice none 0 0, .int .i64 0, .int .i64 0] 24)) #[⟨.int .i64 1, .int .i64 3, 0⟩] 1 2 2 (by rfl)
  have in3 := run_put (((w.alloc (.cells #[.int .i64 0, .string ⟨#[]⟩, .slice none 0 0, .int .i64 0, .int .i64 0] 24)).alloc (.cells cs 9)).alloc (.cells #[.int .i64 3, .string ⟨#[]⟩, .slice none 0 0, .int .i64 0, .int .i64 0] 24)) #[⟨.int .i64 1, .int .i64 3, 0⟩, ⟨.int .i64 2, .int .i64 2, 1⟩] 2 3 1 (by rfl)
  have in4 := run_put (((w.alloc (.cells #[.int .i64 0, .string ⟨#[]⟩, .slice none 0 0, .int .i64 0, .int .i64 0] 24)).alloc (.cells cs 9)).alloc (.cells #[.int .i64 3, .string ⟨#[]⟩, .slice none 0 0, .int .i64 0, .int .i64 0] 24)) #[⟨.int .i64 1, .int .i64 3, 0⟩, ⟨.int .i64 2, .int .i64 2, 1⟩, ⟨.int .i64 3, .int .i64 1, 2⟩] 3 4 1 (by rfl)
  have in5 := run_put (((w.alloc (.cells #[.int .i64 0, .string ⟨#[]⟩, .slice none 0 0, .int .i64 0, .int .i64 0] 24)).alloc (.cells cs 9)).alloc (.cells #[.int .i64 3, .string ⟨#[]⟩, .slice none 0 0, .int .i64 0, .int .i64 0] 24)) #[⟨.int .i64 1, .int .i64 3, 0⟩, ⟨.int .i64 2, .int .i64 2, 1⟩, ⟨.int .i64 3, .int .i64 1, 2⟩, ⟨.int .i64 4, .int .i64 1, 3⟩] 4 5 2 (by rfl)
  have in6 := run_put (((w.alloc (.cells #[.int .i64 0, .string ⟨#[]⟩, .slice none 0 0, .int .i64 0, .int .i64 0] 24)).alloc (.cells cs 9)).alloc (.cells #[.int .i64 3, .string ⟨#[]⟩, .slice none 0 0, .int .i64 0, .int .i64 0] 24)) #[⟨.int .i64 1, .int .i64 3, 0⟩, ⟨.int .i64 2, .int .i64 2, 1⟩, ⟨.int .i64 3, .int .i64 1, 2⟩, ⟨.int .i64 4, .int .i64 1, 3⟩, ⟨.int .i64 5, .int .i64 2, 4⟩] 5 6 2 (by rfl)
  have in7 := run_put (((w.alloc (.cells #[.int .i64 0, .string ⟨#[]⟩, .slice none 0 0, .int .i64 0, .int .i64 0] 24)).alloc (.cells cs 9)).alloc (.cells #[.int .i64 3, .string ⟨#[]⟩, .slice none 0 0, .int .i64 0, .int .i64 0] 24)) #[⟨.int .i64 1, .int .i64 3, 0⟩, ⟨.int .i64 2, .int .i64 2, 1⟩, ⟨.int .i64 3, .int .i64 1, 2⟩, ⟨.int .i64 4, .int .i64 1, 3⟩, ⟨.int .i64 5, .int .i64 2, 4⟩, ⟨.int .i64 6, .int .i64 2, 5⟩] 6 7 3 (by rfl)
  have in8 := run_put (((w.alloc (.cells #[.int .i64 0, .string ⟨#[]⟩, .slice none 0 0, .int .i64 0, .int .i64 0] 24)).alloc (.cells cs 9)).alloc (.cells #[.int .i64 3, .string ⟨#[]⟩, .slice none 0 0, .int .i64 0, .int .i64 0] 24)) #[⟨.int .i64 1, .int .i64 3, 0⟩, ⟨.int .i64 2, .int .i64 2, 1⟩, ⟨.int .i64 3, .int .i64 1, 2⟩, ⟨.int .i64 4, .int .i64 1, 3⟩, ⟨.int .i64 5, .int .i64 2, 4⟩, ⟨.int .i64 6, .int .i64 2, 5⟩, ⟨.int .i64 7, .int .i64 3, 6⟩] 7 8 1 (by rfl)
  have gt := run_get (((w.alloc (.cells #[.int .i64 0, .string ⟨#[]⟩, .slice none 0 0, .int .i64 0, .int .i64 0] 24)).alloc (.cells cs 9)).alloc (.cells #[.int .i64 3, .string ⟨#[]⟩, .slice none 0 0, .int .i64 0, .int .i64 0] 24)) #[⟨.int .i64 1, .int .i64 3, 0⟩, ⟨.int .i64 2, .int .i64 2, 1⟩, ⟨.int .i64 3, .int .i64 1, 2⟩, ⟨.int .i64 4, .int .i64 1, 3⟩, ⟨.int .i64 5, .int .i64 2, 4⟩, ⟨.int .i64 6, .int .i64 2, 5⟩, ⟨.int .i64 7, .int .i64 3, 6⟩, ⟨.int .i64 8, .int .i64 1, 7⟩] 8 3 1 2 (by rfl)
  simp only [World.size_alloc, List.push_toArray, List.cons_append, List.nil_append, Nat.reduceAdd] at in1 in2 in3 in4 in5 in6 in7 in8 gt
  clear ix0 ix1 ix2 ix3 ix4 ix5 ix6 ix7 ix8
  go_wp2_with fail
  refine bodyPost_ret (v := .tuple #[.agg #[.int .i64 0, .string ⟨#[]⟩, .slice none 0 0, .int .i64 0, .int .i64 0], .bool false]) (by simp [results, Tryz.results47, go_sem]) rfl ⟨rfl, ?_⟩
  repeat (first | exact Below.refl _ _ | refine Below.drew ?_ | refine Below.alloc ?_ (by simp; try omega) _ | refine Below.setCell ?_ (by simp; try omega) _)

set_option maxRecDepth 100000 in
/-- A line whose first word is 'crash', of 2 part(s): it is no step. -/
theorem step_crash2 (q1 : ByteArray) (line : ByteArray) (w : World) (hw : WordsAt w) (h0 : 0 < w.heap.size) (hsh : ∀ W : World, Below w.heap.size w W → W.ShapedOpen Tryz.prog) (hs : Splits line [⟨#[99, 114, 97, 115, 104]⟩, q1]) :
    Calls Tryz.prog 47 #[.string line] w fun e w' => e = .returned (.tuple #[.agg #[.int .i64 0, .string ⟨#[]⟩, .slice none 0 0, .int .i64 0, .int .i64 0], .bool false]) ∧ Below w.heap.size w w' := by
  obtain ⟨a0, a1, a2, a3, a4, a5, a6, a7, a8⟩ := hw
  have ix0 : ∀ w : World, (Instr.index 94 (.agg #[.string ⟨#[]⟩, .string ⟨#[112, 117, 116]⟩, .string ⟨#[100, 114, 111, 112]⟩, .string ⟨#[98, 117, 105, 108, 100]⟩, .string ⟨#[112, 117, 98, 108, 105, 115, 104]⟩, .string ⟨#[114, 101, 97, 100]⟩, .string ⟨#[102, 117, 115, 101]⟩, .string ⟨#[99, 114, 97, 115, 104]⟩, .string ⟨#[115, 119, 101, 101, 112]⟩]) (.int .i64 0)).run Tryz.prog w = .ok (.string ⟨#[]⟩) w := fun _ => by kernel_rfl
  have ix1 : ∀ w : World, (Instr.index 94 (.agg #[.string ⟨#[]⟩, .string ⟨#[112, 117, 116]⟩, .string ⟨#[100, 114, 111, 112]⟩, .string ⟨#[98, 117, 105, 108, 100]⟩, .string ⟨#[112, 117, 98, 108, 105, 115, 104]⟩, .string ⟨#[114, 101, 97, 100]⟩, .string ⟨#[102, 117, 115, 101]⟩, .string ⟨#[99, 114, 97, 115, 104]⟩, .string ⟨#[115, 119, 101, 101, 112]⟩]) (.int .i64 1)).run Tryz.prog w = .ok (.string ⟨#[112, 117, 116]⟩) w := fun _ => by kernel_rfl
  have ix2 : ∀ w : World, (Instr.index 94 (.agg #[.string ⟨#[]⟩, .string ⟨#[112, 117, 116]⟩, .string ⟨#[100, 114, 111, 112]⟩, .string ⟨#[98, 117, 105, 108, 100]⟩, .string ⟨#[112, 117, 98, 108, 105, 115, 104]⟩, .string ⟨#[114, 101, 97, 100]⟩, .string ⟨#[102, 117, 115, 101]⟩, .string ⟨#[99, 114, 97, 115, 104]⟩, .string ⟨#[115, 119, 101, 101, 112]⟩]) (.int .i64 2)).run Tryz.prog w = .ok (.string ⟨#[100, 114, 111, 112]⟩) w := fun _ => by kernel_rfl
  have ix3 : ∀ w : World, (Instr.index 94 (.agg #[.string ⟨#[]⟩, .string ⟨#[112, 117, 116]⟩, .string ⟨#[100, 114, 111, 112]⟩, .string ⟨#[98, 117, 105, 108, 100]⟩, .string ⟨#[112, 117, 98, 108, 105, 115, 104]⟩, .string ⟨#[114, 101, 97, 100]⟩, .string ⟨#[102, 117, 115, 101]⟩, .string ⟨#[99, 114, 97, 115, 104]⟩, .string ⟨#[115, 119, 101, 101, 112]⟩]) (.int .i64 3)).run Tryz.prog w = .ok (.string ⟨#[98, 117, 105, 108, 100]⟩) w := fun _ => by kernel_rfl
  have ix4 : ∀ w : World, (Instr.index 94 (.agg #[.string ⟨#[]⟩, .string ⟨#[112, 117, 116]⟩, .string ⟨#[100, 114, 111, 112]⟩, .string ⟨#[98, 117, 105, 108, 100]⟩, .string ⟨#[112, 117, 98, 108, 105, 115, 104]⟩, .string ⟨#[114, 101, 97, 100]⟩, .string ⟨#[102, 117, 115, 101]⟩, .string ⟨#[99, 114, 97, 115, 104]⟩, .string ⟨#[115, 119, 101, 101, 112]⟩]) (.int .i64 4)).run Tryz.prog w = .ok (.string ⟨#[112, 117, 98, 108, 105, 115, 104]⟩) w := fun _ => by kernel_rfl
  have ix5 : ∀ w : World, (Instr.index 94 (.agg #[.string ⟨#[]⟩, .string ⟨#[112, 117, 116]⟩, .string ⟨#[100, 114, 111, 112]⟩, .string ⟨#[98, 117, 105, 108, 100]⟩, .string ⟨#[112, 117, 98, 108, 105, 115, 104]⟩, .string ⟨#[114, 101, 97, 100]⟩, .string ⟨#[102, 117, 115, 101]⟩, .string ⟨#[99, 114, 97, 115, 104]⟩, .string ⟨#[115, 119, 101, 101, 112]⟩]) (.int .i64 5)).run Tryz.prog w = .ok (.string ⟨#[114, 101, 97, 100]⟩) w := fun _ => by kernel_rfl
  have ix6 : ∀ w : World, (Instr.index 94 (.agg #[.string ⟨#[]⟩, .string ⟨#[112, 117, 116]⟩, .string ⟨#[100, 114, 111, 112]⟩, .string ⟨#[98, 117, 105, 108, 100]⟩, .string ⟨#[112, 117, 98, 108, 105, 115, 104]⟩, .string ⟨#[114, 101, 97, 100]⟩, .string ⟨#[102, 117, 115, 101]⟩, .string ⟨#[99, 114, 97, 115, 104]⟩, .string ⟨#[115, 119, 101, 101, 112]⟩]) (.int .i64 6)).run Tryz.prog w = .ok (.string ⟨#[102, 117, 115, 101]⟩) w := fun _ => by kernel_rfl
  have ix7 : ∀ w : World, (Instr.index 94 (.agg #[.string ⟨#[]⟩, .string ⟨#[112, 117, 116]⟩, .string ⟨#[100, 114, 111, 112]⟩, .string ⟨#[98, 117, 105, 108, 100]⟩, .string ⟨#[112, 117, 98, 108, 105, 115, 104]⟩, .string ⟨#[114, 101, 97, 100]⟩, .string ⟨#[102, 117, 115, 101]⟩, .string ⟨#[99, 114, 97, 115, 104]⟩, .string ⟨#[115, 119, 101, 101, 112]⟩]) (.int .i64 7)).run Tryz.prog w = .ok (.string ⟨#[99, 114, 97, 115, 104]⟩) w := fun _ => by kernel_rfl
  have ix8 : ∀ w : World, (Instr.index 94 (.agg #[.string ⟨#[]⟩, .string ⟨#[112, 117, 116]⟩, .string ⟨#[100, 114, 111, 112]⟩, .string ⟨#[98, 117, 105, 108, 100]⟩, .string ⟨#[112, 117, 98, 108, 105, 115, 104]⟩, .string ⟨#[114, 101, 97, 100]⟩, .string ⟨#[102, 117, 115, 101]⟩, .string ⟨#[99, 114, 97, 115, 104]⟩, .string ⟨#[115, 119, 101, 101, 112]⟩]) (.int .i64 8)).run Tryz.prog w = .ok (.string ⟨#[115, 119, 101, 101, 112]⟩) w := fun _ => by kernel_rfl
  have hmm := @run_makeMap Tryz.prog
  obtain ⟨cap, hs⟩ := hs (w.alloc (.cells #[.int .i64 0, .string ⟨#[]⟩, .slice none 0 0, .int .i64 0, .int .i64 0] 24)) (hsh _ ((Below.refl _ _).alloc (Nat.le_refl _) _))
  go_enter Tryz.func47, Tryz.ntmps47
  go_wp2_with fail
  refine hs.mono ?_
  rintro e w1 ⟨rfl, cs, rfl, hc⟩
  have p0 := hc 0 (by simp)
  have p1 := hc 1 (by simp)
  simp only [List.getElem_cons_zero, List.getElem_cons_succ] at p0 p1
  clear hc hs
  go_wp2_with fail
  clear a0 a1 a2 a3 a4 a5 a6 a7 a8
  refine wp_loop_rounds 10 ?_
  iterate 9 (rw [rounds_succ]; go_wp2_with fail)
  rw [rounds_succ]
  go_upto_region 9 with (fail)
  have in1 := run_put (((w.alloc (.cells #[.int .i64 0, .string ⟨#[]⟩, .slice none 0 0, .int .i64 0, .int .i64 0] 24)).alloc (.cells cs 9)).alloc (.cells #[.int .i64 7, .string ⟨#[]⟩, .slice none 0 0, .int .i64 0, .int .i64 0] 24)) #[] 0 1 3 (by rfl)
  have in2 := run_put (((w.alloc (.cells #[.int .i64 0, .string ⟨#[]⟩, .slice none 0 0, .int .i64 0, .int .i64 0] 24)).alloc (.cells cs 9)).alloc (.cells #[.int .i64 7, .string ⟨#[]⟩, .slice none 0 0, .int .i64 0, .int .i64 0] 24)) #[⟨.int .i64 1, .int .i64 3, 0⟩] 1 2 2 (by rfl)
  have in3 := run_put (((w.alloc (.cells #[.int .i64 0, .string ⟨#[]⟩, .slice none 0 0, .int .i64 0, .int .i64 0] 24)).alloc (.cells cs 9)).alloc (.cells #[.int .i64 7, .string ⟨#[]⟩, .slice none 0 0, .int .i64 0, .int .i64 0] 24)) #[⟨.int .i64 1, .int .i64 3, 0⟩, ⟨.int .i64 2, .int .i64 2, 1⟩] 2 3 1 (by rfl)
  have in4 := run_put (((w.alloc (.cells #[.int .i64 0, .string ⟨#[]⟩, .slice none 0 0, .int .i64 0, .int .i64 0] 24)).alloc (.cells cs 9)).alloc (.cells #[.int .i64 7, .string ⟨#[]⟩, .slice none 0 0, .int .i64 0, .int .i64 0] 24)) #[⟨.int .i64 1, .int .i64 3, 0⟩, ⟨.int .i64 2, .int .i64 2, 1⟩, ⟨.int .i64 3, .int .i64 1, 2⟩] 3 4 1 (by rfl)
  have in5 := run_put (((w.alloc (.cells #[.int .i64 0, .string ⟨#[]⟩, .slice none 0 0, .int .i64 0, .int .i64 0] 24)).alloc (.cells cs 9)).alloc (.cells #[.int .i64 7, .string ⟨#[]⟩, .slice none 0 0, .int .i64 0, .int .i64 0] 24)) #[⟨.int .i64 1, .int .i64 3, 0⟩, ⟨.int .i64 2, .int .i64 2, 1⟩, ⟨.int .i64 3, .int .i64 1, 2⟩, ⟨.int .i64 4, .int .i64 1, 3⟩] 4 5 2 (by rfl)
  have in6 := run_put (((w.alloc (.cells #[.int .i64 0, .string ⟨#[]⟩, .slice none 0 0, .int .i64 0, .int .i64 0] 24)).alloc (.cells cs 9)).alloc (.cells #[.int .i64 7, .string ⟨#[]⟩, .slice none 0 0, .int .i64 0, .int .i64 0] 24)) #[⟨.int .i64 1, .int .i64 3, 0⟩, ⟨.int .i64 2, .int .i64 2, 1⟩, ⟨.int .i64 3, .int .i64 1, 2⟩, ⟨.int .i64 4, .int .i64 1, 3⟩, ⟨.int .i64 5, .int .i64 2, 4⟩] 5 6 2 (by rfl)
  have in7 := run_put (((w.alloc (.cells #[.int .i64 0, .string ⟨#[]⟩, .slice none 0 0, .int .i64 0, .int .i64 0] 24)).alloc (.cells cs 9)).alloc (.cells #[.int .i64 7, .string ⟨#[]⟩, .slice none 0 0, .int .i64 0, .int .i64 0] 24)) #[⟨.int .i64 1, .int .i64 3, 0⟩, ⟨.int .i64 2, .int .i64 2, 1⟩, ⟨.int .i64 3, .int .i64 1, 2⟩, ⟨.int .i64 4, .int .i64 1, 3⟩, ⟨.int .i64 5, .int .i64 2, 4⟩, ⟨.int .i64 6, .int .i64 2, 5⟩] 6 7 3 (by rfl)
  have in8 := run_put (((w.alloc (.cells #[.int .i64 0, .string ⟨#[]⟩, .slice none 0 0, .int .i64 0, .int .i64 0] 24)).alloc (.cells cs 9)).alloc (.cells #[.int .i64 7, .string ⟨#[]⟩, .slice none 0 0, .int .i64 0, .int .i64 0] 24)) #[⟨.int .i64 1, .int .i64 3, 0⟩, ⟨.int .i64 2, .int .i64 2, 1⟩, ⟨.int .i64 3, .int .i64 1, 2⟩, ⟨.int .i64 4, .int .i64 1, 3⟩, ⟨.int .i64 5, .int .i64 2, 4⟩, ⟨.int .i64 6, .int .i64 2, 5⟩, ⟨.int .i64 7, .int .i64 3, 6⟩] 7 8 1 (by rfl)
  have gt := run_get (((w.alloc (.cells #[.int .i64 0, .string ⟨#[]⟩, .slice none 0 0, .int .i64 0, .int .i64 0] 24)).alloc (.cells cs 9)).alloc (.cells #[.int .i64 7, .string ⟨#[]⟩, .slice none 0 0, .int .i64 0, .int .i64 0] 24)) #[⟨.int .i64 1, .int .i64 3, 0⟩, ⟨.int .i64 2, .int .i64 2, 1⟩, ⟨.int .i64 3, .int .i64 1, 2⟩, ⟨.int .i64 4, .int .i64 1, 3⟩, ⟨.int .i64 5, .int .i64 2, 4⟩, ⟨.int .i64 6, .int .i64 2, 5⟩, ⟨.int .i64 7, .int .i64 3, 6⟩, ⟨.int .i64 8, .int .i64 1, 7⟩] 8 7 3 6 (by rfl)
  simp only [World.size_alloc, List.push_toArray, List.cons_append, List.nil_append, Nat.reduceAdd] at in1 in2 in3 in4 in5 in6 in7 in8 gt
  clear ix0 ix1 ix2 ix3 ix4 ix5 ix6 ix7 ix8
  go_wp2_with fail
  refine bodyPost_ret (v := .tuple #[.agg #[.int .i64 0, .string ⟨#[]⟩, .slice none 0 0, .int .i64 0, .int .i64 0], .bool false]) (by simp [results, Tryz.results47, go_sem]) rfl ⟨rfl, ?_⟩
  repeat (first | exact Below.refl _ _ | refine Below.drew ?_ | refine Below.alloc ?_ (by simp; try omega) _ | refine Below.setCell ?_ (by simp; try omega) _)

set_option maxRecDepth 100000 in
/-- A line whose first word is 'fuse', of 1 part(s): it is no step. -/
theorem step_fuse1 (line : ByteArray) (w : World) (hw : WordsAt w) (h0 : 0 < w.heap.size) (hsh : ∀ W : World, Below w.heap.size w W → W.ShapedOpen Tryz.prog) (hs : Splits line [⟨#[102, 117, 115, 101]⟩]) :
    Calls Tryz.prog 47 #[.string line] w fun e w' => e = .returned (.tuple #[.agg #[.int .i64 0, .string ⟨#[]⟩, .slice none 0 0, .int .i64 0, .int .i64 0], .bool false]) ∧ Below w.heap.size w w' := by
  obtain ⟨a0, a1, a2, a3, a4, a5, a6, a7, a8⟩ := hw
  have ix0 : ∀ w : World, (Instr.index 94 (.agg #[.string ⟨#[]⟩, .string ⟨#[112, 117, 116]⟩, .string ⟨#[100, 114, 111, 112]⟩, .string ⟨#[98, 117, 105, 108, 100]⟩, .string ⟨#[112, 117, 98, 108, 105, 115, 104]⟩, .string ⟨#[114, 101, 97, 100]⟩, .string ⟨#[102, 117, 115, 101]⟩, .string ⟨#[99, 114, 97, 115, 104]⟩, .string ⟨#[115, 119, 101, 101, 112]⟩]) (.int .i64 0)).run Tryz.prog w = .ok (.string ⟨#[]⟩) w := fun _ => by kernel_rfl
  have ix1 : ∀ w : World, (Instr.index 94 (.agg #[.string ⟨#[]⟩, .string ⟨#[112, 117, 116]⟩, .string ⟨#[100, 114, 111, 112]⟩, .string ⟨#[98, 117, 105, 108, 100]⟩, .string ⟨#[112, 117, 98, 108, 105, 115, 104]⟩, .string ⟨#[114, 101, 97, 100]⟩, .string ⟨#[102, 117, 115, 101]⟩, .string ⟨#[99, 114, 97, 115, 104]⟩, .string ⟨#[115, 119, 101, 101, 112]⟩]) (.int .i64 1)).run Tryz.prog w = .ok (.string ⟨#[112, 117, 116]⟩) w := fun _ => by kernel_rfl
  have ix2 : ∀ w : World, (Instr.index 94 (.agg #[.string ⟨#[]⟩, .string ⟨#[112, 117, 116]⟩, .string ⟨#[100, 114, 111, 112]⟩, .string ⟨#[98, 117, 105, 108, 100]⟩, .string ⟨#[112, 117, 98, 108, 105, 115, 104]⟩, .string ⟨#[114, 101, 97, 100]⟩, .string ⟨#[102, 117, 115, 101]⟩, .string ⟨#[99, 114, 97, 115, 104]⟩, .string ⟨#[115, 119, 101, 101, 112]⟩]) (.int .i64 2)).run Tryz.prog w = .ok (.string ⟨#[100, 114, 111, 112]⟩) w := fun _ => by kernel_rfl
  have ix3 : ∀ w : World, (Instr.index 94 (.agg #[.string ⟨#[]⟩, .string ⟨#[112, 117, 116]⟩, .string ⟨#[100, 114, 111, 112]⟩, .string ⟨#[98, 117, 105, 108, 100]⟩, .string ⟨#[112, 117, 98, 108, 105, 115, 104]⟩, .string ⟨#[114, 101, 97, 100]⟩, .string ⟨#[102, 117, 115, 101]⟩, .string ⟨#[99, 114, 97, 115, 104]⟩, .string ⟨#[115, 119, 101, 101, 112]⟩]) (.int .i64 3)).run Tryz.prog w = .ok (.string ⟨#[98, 117, 105, 108, 100]⟩) w := fun _ => by kernel_rfl
  have ix4 : ∀ w : World, (Instr.index 94 (.agg #[.string ⟨#[]⟩, .string ⟨#[112, 117, 116]⟩, .string ⟨#[100, 114, 111, 112]⟩, .string ⟨#[98, 117, 105, 108, 100]⟩, .string ⟨#[112, 117, 98, 108, 105, 115, 104]⟩, .string ⟨#[114, 101, 97, 100]⟩, .string ⟨#[102, 117, 115, 101]⟩, .string ⟨#[99, 114, 97, 115, 104]⟩, .string ⟨#[115, 119, 101, 101, 112]⟩]) (.int .i64 4)).run Tryz.prog w = .ok (.string ⟨#[112, 117, 98, 108, 105, 115, 104]⟩) w := fun _ => by kernel_rfl
  have ix5 : ∀ w : World, (Instr.index 94 (.agg #[.string ⟨#[]⟩, .string ⟨#[112, 117, 116]⟩, .string ⟨#[100, 114, 111, 112]⟩, .string ⟨#[98, 117, 105, 108, 100]⟩, .string ⟨#[112, 117, 98, 108, 105, 115, 104]⟩, .string ⟨#[114, 101, 97, 100]⟩, .string ⟨#[102, 117, 115, 101]⟩, .string ⟨#[99, 114, 97, 115, 104]⟩, .string ⟨#[115, 119, 101, 101, 112]⟩]) (.int .i64 5)).run Tryz.prog w = .ok (.string ⟨#[114, 101, 97, 100]⟩) w := fun _ => by kernel_rfl
  have ix6 : ∀ w : World, (Instr.index 94 (.agg #[.string ⟨#[]⟩, .string ⟨#[112, 117, 116]⟩, .string ⟨#[100, 114, 111, 112]⟩, .string ⟨#[98, 117, 105, 108, 100]⟩, .string ⟨#[112, 117, 98, 108, 105, 115, 104]⟩, .string ⟨#[114, 101, 97, 100]⟩, .string ⟨#[102, 117, 115, 101]⟩, .string ⟨#[99, 114, 97, 115, 104]⟩, .string ⟨#[115, 119, 101, 101, 112]⟩]) (.int .i64 6)).run Tryz.prog w = .ok (.string ⟨#[102, 117, 115, 101]⟩) w := fun _ => by kernel_rfl
  have ix7 : ∀ w : World, (Instr.index 94 (.agg #[.string ⟨#[]⟩, .string ⟨#[112, 117, 116]⟩, .string ⟨#[100, 114, 111, 112]⟩, .string ⟨#[98, 117, 105, 108, 100]⟩, .string ⟨#[112, 117, 98, 108, 105, 115, 104]⟩, .string ⟨#[114, 101, 97, 100]⟩, .string ⟨#[102, 117, 115, 101]⟩, .string ⟨#[99, 114, 97, 115, 104]⟩, .string ⟨#[115, 119, 101, 101, 112]⟩]) (.int .i64 7)).run Tryz.prog w = .ok (.string ⟨#[99, 114, 97, 115, 104]⟩) w := fun _ => by kernel_rfl
  have ix8 : ∀ w : World, (Instr.index 94 (.agg #[.string ⟨#[]⟩, .string ⟨#[112, 117, 116]⟩, .string ⟨#[100, 114, 111, 112]⟩, .string ⟨#[98, 117, 105, 108, 100]⟩, .string ⟨#[112, 117, 98, 108, 105, 115, 104]⟩, .string ⟨#[114, 101, 97, 100]⟩, .string ⟨#[102, 117, 115, 101]⟩, .string ⟨#[99, 114, 97, 115, 104]⟩, .string ⟨#[115, 119, 101, 101, 112]⟩]) (.int .i64 8)).run Tryz.prog w = .ok (.string ⟨#[115, 119, 101, 101, 112]⟩) w := fun _ => by kernel_rfl
  have hmm := @run_makeMap Tryz.prog
  obtain ⟨cap, hs⟩ := hs (w.alloc (.cells #[.int .i64 0, .string ⟨#[]⟩, .slice none 0 0, .int .i64 0, .int .i64 0] 24)) (hsh _ ((Below.refl _ _).alloc (Nat.le_refl _) _))
  go_enter Tryz.func47, Tryz.ntmps47
  go_wp2_with fail
  refine hs.mono ?_
  rintro e w1 ⟨rfl, cs, rfl, hc⟩
  have p0 := hc 0 (by simp)
  simp only [List.getElem_cons_zero] at p0
  clear hc hs
  go_wp2_with fail
  clear a0 a1 a2 a3 a4 a5 a6 a7 a8
  refine wp_loop_rounds 10 ?_
  iterate 9 (rw [rounds_succ]; go_wp2_with fail)
  rw [rounds_succ]
  go_upto_region 9 with (fail)
  have in1 := run_put (((w.alloc (.cells #[.int .i64 0, .string ⟨#[]⟩, .slice none 0 0, .int .i64 0, .int .i64 0] 24)).alloc (.cells cs 9)).alloc (.cells #[.int .i64 6, .string ⟨#[]⟩, .slice none 0 0, .int .i64 0, .int .i64 0] 24)) #[] 0 1 3 (by rfl)
  have in2 := run_put (((w.alloc (.cells #[.int .i64 0, .string ⟨#[]⟩, .slice none 0 0, .int .i64 0, .int .i64 0] 24)).alloc (.cells cs 9)).alloc (.cells #[.int .i64 6, .string ⟨#[]⟩, .slice none 0 0, .int .i64 0, .int .i64 0] 24)) #[⟨.int .i64 1, .int .i64 3, 0⟩] 1 2 2 (by rfl)
  have in3 := run_put (((w.alloc (.cells #[.int .i64 0, .string ⟨#[]⟩, .slice none 0 0, .int .i64 0, .int .i64 0] 24)).alloc (.cells cs 9)).alloc (.cells #[.int .i64 6, .string ⟨#[]⟩, .slice none 0 0, .int .i64 0, .int .i64 0] 24)) #[⟨.int .i64 1, .int .i64 3, 0⟩, ⟨.int .i64 2, .int .i64 2, 1⟩] 2 3 1 (by rfl)
  have in4 := run_put (((w.alloc (.cells #[.int .i64 0, .string ⟨#[]⟩, .slice none 0 0, .int .i64 0, .int .i64 0] 24)).alloc (.cells cs 9)).alloc (.cells #[.int .i64 6, .string ⟨#[]⟩, .slice none 0 0, .int .i64 0, .int .i64 0] 24)) #[⟨.int .i64 1, .int .i64 3, 0⟩, ⟨.int .i64 2, .int .i64 2, 1⟩, ⟨.int .i64 3, .int .i64 1, 2⟩] 3 4 1 (by rfl)
  have in5 := run_put (((w.alloc (.cells #[.int .i64 0, .string ⟨#[]⟩, .slice none 0 0, .int .i64 0, .int .i64 0] 24)).alloc (.cells cs 9)).alloc (.cells #[.int .i64 6, .string ⟨#[]⟩, .slice none 0 0, .int .i64 0, .int .i64 0] 24)) #[⟨.int .i64 1, .int .i64 3, 0⟩, ⟨.int .i64 2, .int .i64 2, 1⟩, ⟨.int .i64 3, .int .i64 1, 2⟩, ⟨.int .i64 4, .int .i64 1, 3⟩] 4 5 2 (by rfl)
  have in6 := run_put (((w.alloc (.cells #[.int .i64 0, .string ⟨#[]⟩, .slice none 0 0, .int .i64 0, .int .i64 0] 24)).alloc (.cells cs 9)).alloc (.cells #[.int .i64 6, .string ⟨#[]⟩, .slice none 0 0, .int .i64 0, .int .i64 0] 24)) #[⟨.int .i64 1, .int .i64 3, 0⟩, ⟨.int .i64 2, .int .i64 2, 1⟩, ⟨.int .i64 3, .int .i64 1, 2⟩, ⟨.int .i64 4, .int .i64 1, 3⟩, ⟨.int .i64 5, .int .i64 2, 4⟩] 5 6 2 (by rfl)
  have in7 := run_put (((w.alloc (.cells #[.int .i64 0, .string ⟨#[]⟩, .slice none 0 0, .int .i64 0, .int .i64 0] 24)).alloc (.cells cs 9)).alloc (.cells #[.int .i64 6, .string ⟨#[]⟩, .slice none 0 0, .int .i64 0, .int .i64 0] 24)) #[⟨.int .i64 1, .int .i64 3, 0⟩, ⟨.int .i64 2, .int .i64 2, 1⟩, ⟨.int .i64 3, .int .i64 1, 2⟩, ⟨.int .i64 4, .int .i64 1, 3⟩, ⟨.int .i64 5, .int .i64 2, 4⟩, ⟨.int .i64 6, .int .i64 2, 5⟩] 6 7 3 (by rfl)
  have in8 := run_put (((w.alloc (.cells #[.int .i64 0, .string ⟨#[]⟩, .slice none 0 0, .int .i64 0, .int .i64 0] 24)).alloc (.cells cs 9)).alloc (.cells #[.int .i64 6, .string ⟨#[]⟩, .slice none 0 0, .int .i64 0, .int .i64 0] 24)) #[⟨.int .i64 1, .int .i64 3, 0⟩, ⟨.int .i64 2, .int .i64 2, 1⟩, ⟨.int .i64 3, .int .i64 1, 2⟩, ⟨.int .i64 4, .int .i64 1, 3⟩, ⟨.int .i64 5, .int .i64 2, 4⟩, ⟨.int .i64 6, .int .i64 2, 5⟩, ⟨.int .i64 7, .int .i64 3, 6⟩] 7 8 1 (by rfl)
  have gt := run_get (((w.alloc (.cells #[.int .i64 0, .string ⟨#[]⟩, .slice none 0 0, .int .i64 0, .int .i64 0] 24)).alloc (.cells cs 9)).alloc (.cells #[.int .i64 6, .string ⟨#[]⟩, .slice none 0 0, .int .i64 0, .int .i64 0] 24)) #[⟨.int .i64 1, .int .i64 3, 0⟩, ⟨.int .i64 2, .int .i64 2, 1⟩, ⟨.int .i64 3, .int .i64 1, 2⟩, ⟨.int .i64 4, .int .i64 1, 3⟩, ⟨.int .i64 5, .int .i64 2, 4⟩, ⟨.int .i64 6, .int .i64 2, 5⟩, ⟨.int .i64 7, .int .i64 3, 6⟩, ⟨.int .i64 8, .int .i64 1, 7⟩] 8 6 2 5 (by rfl)
  simp only [World.size_alloc, List.push_toArray, List.cons_append, List.nil_append, Nat.reduceAdd] at in1 in2 in3 in4 in5 in6 in7 in8 gt
  clear ix0 ix1 ix2 ix3 ix4 ix5 ix6 ix7 ix8
  go_wp2_with fail
  refine bodyPost_ret (v := .tuple #[.agg #[.int .i64 0, .string ⟨#[]⟩, .slice none 0 0, .int .i64 0, .int .i64 0], .bool false]) (by simp [results, Tryz.results47, go_sem]) rfl ⟨rfl, ?_⟩
  repeat (first | exact Below.refl _ _ | refine Below.drew ?_ | refine Below.alloc ?_ (by simp; try omega) _ | refine Below.setCell ?_ (by simp; try omega) _)

set_option maxRecDepth 100000 in
/-- A line whose first word is 'read', of 1 part(s): it is no step. -/
theorem step_read1 (line : ByteArray) (w : World) (hw : WordsAt w) (h0 : 0 < w.heap.size) (hsh : ∀ W : World, Below w.heap.size w W → W.ShapedOpen Tryz.prog) (hs : Splits line [⟨#[114, 101, 97, 100]⟩]) :
    Calls Tryz.prog 47 #[.string line] w fun e w' => e = .returned (.tuple #[.agg #[.int .i64 0, .string ⟨#[]⟩, .slice none 0 0, .int .i64 0, .int .i64 0], .bool false]) ∧ Below w.heap.size w w' := by
  obtain ⟨a0, a1, a2, a3, a4, a5, a6, a7, a8⟩ := hw
  have ix0 : ∀ w : World, (Instr.index 94 (.agg #[.string ⟨#[]⟩, .string ⟨#[112, 117, 116]⟩, .string ⟨#[100, 114, 111, 112]⟩, .string ⟨#[98, 117, 105, 108, 100]⟩, .string ⟨#[112, 117, 98, 108, 105, 115, 104]⟩, .string ⟨#[114, 101, 97, 100]⟩, .string ⟨#[102, 117, 115, 101]⟩, .string ⟨#[99, 114, 97, 115, 104]⟩, .string ⟨#[115, 119, 101, 101, 112]⟩]) (.int .i64 0)).run Tryz.prog w = .ok (.string ⟨#[]⟩) w := fun _ => by kernel_rfl
  have ix1 : ∀ w : World, (Instr.index 94 (.agg #[.string ⟨#[]⟩, .string ⟨#[112, 117, 116]⟩, .string ⟨#[100, 114, 111, 112]⟩, .string ⟨#[98, 117, 105, 108, 100]⟩, .string ⟨#[112, 117, 98, 108, 105, 115, 104]⟩, .string ⟨#[114, 101, 97, 100]⟩, .string ⟨#[102, 117, 115, 101]⟩, .string ⟨#[99, 114, 97, 115, 104]⟩, .string ⟨#[115, 119, 101, 101, 112]⟩]) (.int .i64 1)).run Tryz.prog w = .ok (.string ⟨#[112, 117, 116]⟩) w := fun _ => by kernel_rfl
  have ix2 : ∀ w : World, (Instr.index 94 (.agg #[.string ⟨#[]⟩, .string ⟨#[112, 117, 116]⟩, .string ⟨#[100, 114, 111, 112]⟩, .string ⟨#[98, 117, 105, 108, 100]⟩, .string ⟨#[112, 117, 98, 108, 105, 115, 104]⟩, .string ⟨#[114, 101, 97, 100]⟩, .string ⟨#[102, 117, 115, 101]⟩, .string ⟨#[99, 114, 97, 115, 104]⟩, .string ⟨#[115, 119, 101, 101, 112]⟩]) (.int .i64 2)).run Tryz.prog w = .ok (.string ⟨#[100, 114, 111, 112]⟩) w := fun _ => by kernel_rfl
  have ix3 : ∀ w : World, (Instr.index 94 (.agg #[.string ⟨#[]⟩, .string ⟨#[112, 117, 116]⟩, .string ⟨#[100, 114, 111, 112]⟩, .string ⟨#[98, 117, 105, 108, 100]⟩, .string ⟨#[112, 117, 98, 108, 105, 115, 104]⟩, .string ⟨#[114, 101, 97, 100]⟩, .string ⟨#[102, 117, 115, 101]⟩, .string ⟨#[99, 114, 97, 115, 104]⟩, .string ⟨#[115, 119, 101, 101, 112]⟩]) (.int .i64 3)).run Tryz.prog w = .ok (.string ⟨#[98, 117, 105, 108, 100]⟩) w := fun _ => by kernel_rfl
  have ix4 : ∀ w : World, (Instr.index 94 (.agg #[.string ⟨#[]⟩, .string ⟨#[112, 117, 116]⟩, .string ⟨#[100, 114, 111, 112]⟩, .string ⟨#[98, 117, 105, 108, 100]⟩, .string ⟨#[112, 117, 98, 108, 105, 115, 104]⟩, .string ⟨#[114, 101, 97, 100]⟩, .string ⟨#[102, 117, 115, 101]⟩, .string ⟨#[99, 114, 97, 115, 104]⟩, .string ⟨#[115, 119, 101, 101, 112]⟩]) (.int .i64 4)).run Tryz.prog w = .ok (.string ⟨#[112, 117, 98, 108, 105, 115, 104]⟩) w := fun _ => by kernel_rfl
  have ix5 : ∀ w : World, (Instr.index 94 (.agg #[.string ⟨#[]⟩, .string ⟨#[112, 117, 116]⟩, .string ⟨#[100, 114, 111, 112]⟩, .string ⟨#[98, 117, 105, 108, 100]⟩, .string ⟨#[112, 117, 98, 108, 105, 115, 104]⟩, .string ⟨#[114, 101, 97, 100]⟩, .string ⟨#[102, 117, 115, 101]⟩, .string ⟨#[99, 114, 97, 115, 104]⟩, .string ⟨#[115, 119, 101, 101, 112]⟩]) (.int .i64 5)).run Tryz.prog w = .ok (.string ⟨#[114, 101, 97, 100]⟩) w := fun _ => by kernel_rfl
  have ix6 : ∀ w : World, (Instr.index 94 (.agg #[.string ⟨#[]⟩, .string ⟨#[112, 117, 116]⟩, .string ⟨#[100, 114, 111, 112]⟩, .string ⟨#[98, 117, 105, 108, 100]⟩, .string ⟨#[112, 117, 98, 108, 105, 115, 104]⟩, .string ⟨#[114, 101, 97, 100]⟩, .string ⟨#[102, 117, 115, 101]⟩, .string ⟨#[99, 114, 97, 115, 104]⟩, .string ⟨#[115, 119, 101, 101, 112]⟩]) (.int .i64 6)).run Tryz.prog w = .ok (.string ⟨#[102, 117, 115, 101]⟩) w := fun _ => by kernel_rfl
  have ix7 : ∀ w : World, (Instr.index 94 (.agg #[.string ⟨#[]⟩, .string ⟨#[112, 117, 116]⟩, .string ⟨#[100, 114, 111, 112]⟩, .string ⟨#[98, 117, 105, 108, 100]⟩, .string ⟨#[112, 117, 98, 108, 105, 115, 104]⟩, .string ⟨#[114, 101, 97, 100]⟩, .string ⟨#[102, 117, 115, 101]⟩, .string ⟨#[99, 114, 97, 115, 104]⟩, .string ⟨#[115, 119, 101, 101, 112]⟩]) (.int .i64 7)).run Tryz.prog w = .ok (.string ⟨#[99, 114, 97, 115, 104]⟩) w := fun _ => by kernel_rfl
  have ix8 : ∀ w : World, (Instr.index 94 (.agg #[.string ⟨#[]⟩, .string ⟨#[112, 117, 116]⟩, .string ⟨#[100, 114, 111, 112]⟩, .string ⟨#[98, 117, 105, 108, 100]⟩, .string ⟨#[112, 117, 98, 108, 105, 115, 104]⟩, .string ⟨#[114, 101, 97, 100]⟩, .string ⟨#[102, 117, 115, 101]⟩, .string ⟨#[99, 114, 97, 115, 104]⟩, .string ⟨#[115, 119, 101, 101, 112]⟩]) (.int .i64 8)).run Tryz.prog w = .ok (.string ⟨#[115, 119, 101, 101, 112]⟩) w := fun _ => by kernel_rfl
  have hmm := @run_makeMap Tryz.prog
  obtain ⟨cap, hs⟩ := hs (w.alloc (.cells #[.int .i64 0, .string ⟨#[]⟩, .slice none 0 0, .int .i64 0, .int .i64 0] 24)) (hsh _ ((Below.refl _ _).alloc (Nat.le_refl _) _))
  go_enter Tryz.func47, Tryz.ntmps47
  go_wp2_with fail
  refine hs.mono ?_
  rintro e w1 ⟨rfl, cs, rfl, hc⟩
  have p0 := hc 0 (by simp)
  simp only [List.getElem_cons_zero] at p0
  clear hc hs
  go_wp2_with fail
  clear a0 a1 a2 a3 a4 a5 a6 a7 a8
  refine wp_loop_rounds 10 ?_
  iterate 9 (rw [rounds_succ]; go_wp2_with fail)
  rw [rounds_succ]
  go_upto_region 9 with (fail)
  have in1 := run_put (((w.alloc (.cells #[.int .i64 0, .string ⟨#[]⟩, .slice none 0 0, .int .i64 0, .int .i64 0] 24)).alloc (.cells cs 9)).alloc (.cells #[.int .i64 5, .string ⟨#[]⟩, .slice none 0 0, .int .i64 0, .int .i64 0] 24)) #[] 0 1 3 (by rfl)
  have in2 := run_put (((w.alloc (.cells #[.int .i64 0, .string ⟨#[]⟩, .slice none 0 0, .int .i64 0, .int .i64 0] 24)).alloc (.cells cs 9)).alloc (.cells #[.int .i64 5, .string ⟨#[]⟩, .slice none 0 0, .int .i64 0, .int .i64 0] 24)) #[⟨.int .i64 1, .int .i64 3, 0⟩] 1 2 2 (by rfl)
  have in3 := run_put (((w.alloc (.cells #[.int .i64 0, .string ⟨#[]⟩, .slice none 0 0, .int .i64 0, .int .i64 0] 24)).alloc (.cells cs 9)).alloc (.cells #[.int .i64 5, .string ⟨#[]⟩, .slice none 0 0, .int .i64 0, .int .i64 0] 24)) #[⟨.int .i64 1, .int .i64 3, 0⟩, ⟨.int .i64 2, .int .i64 2, 1⟩] 2 3 1 (by rfl)
  have in4 := run_put (((w.alloc (.cells #[.int .i64 0, .string ⟨#[]⟩, .slice none 0 0, .int .i64 0, .int .i64 0] 24)).alloc (.cells cs 9)).alloc (.cells #[.int .i64 5, .string ⟨#[]⟩, .slice none 0 0, .int .i64 0, .int .i64 0] 24)) #[⟨.int .i64 1, .int .i64 3, 0⟩, ⟨.int .i64 2, .int .i64 2, 1⟩, ⟨.int .i64 3, .int .i64 1, 2⟩] 3 4 1 (by rfl)
  have in5 := run_put (((w.alloc (.cells #[.int .i64 0, .string ⟨#[]⟩, .slice none 0 0, .int .i64 0, .int .i64 0] 24)).alloc (.cells cs 9)).alloc (.cells #[.int .i64 5, .string ⟨#[]⟩, .slice none 0 0, .int .i64 0, .int .i64 0] 24)) #[⟨.int .i64 1, .int .i64 3, 0⟩, ⟨.int .i64 2, .int .i64 2, 1⟩, ⟨.int .i64 3, .int .i64 1, 2⟩, ⟨.int .i64 4, .int .i64 1, 3⟩] 4 5 2 (by rfl)
  have in6 := run_put (((w.alloc (.cells #[.int .i64 0, .string ⟨#[]⟩, .slice none 0 0, .int .i64 0, .int .i64 0] 24)).alloc (.cells cs 9)).alloc (.cells #[.int .i64 5, .string ⟨#[]⟩, .slice none 0 0, .int .i64 0, .int .i64 0] 24)) #[⟨.int .i64 1, .int .i64 3, 0⟩, ⟨.int .i64 2, .int .i64 2, 1⟩, ⟨.int .i64 3, .int .i64 1, 2⟩, ⟨.int .i64 4, .int .i64 1, 3⟩, ⟨.int .i64 5, .int .i64 2, 4⟩] 5 6 2 (by rfl)
  have in7 := run_put (((w.alloc (.cells #[.int .i64 0, .string ⟨#[]⟩, .slice none 0 0, .int .i64 0, .int .i64 0] 24)).alloc (.cells cs 9)).alloc (.cells #[.int .i64 5, .string ⟨#[]⟩, .slice none 0 0, .int .i64 0, .int .i64 0] 24)) #[⟨.int .i64 1, .int .i64 3, 0⟩, ⟨.int .i64 2, .int .i64 2, 1⟩, ⟨.int .i64 3, .int .i64 1, 2⟩, ⟨.int .i64 4, .int .i64 1, 3⟩, ⟨.int .i64 5, .int .i64 2, 4⟩, ⟨.int .i64 6, .int .i64 2, 5⟩] 6 7 3 (by rfl)
  have in8 := run_put (((w.alloc (.cells #[.int .i64 0, .string ⟨#[]⟩, .slice none 0 0, .int .i64 0, .int .i64 0] 24)).alloc (.cells cs 9)).alloc (.cells #[.int .i64 5, .string ⟨#[]⟩, .slice none 0 0, .int .i64 0, .int .i64 0] 24)) #[⟨.int .i64 1, .int .i64 3, 0⟩, ⟨.int .i64 2, .int .i64 2, 1⟩, ⟨.int .i64 3, .int .i64 1, 2⟩, ⟨.int .i64 4, .int .i64 1, 3⟩, ⟨.int .i64 5, .int .i64 2, 4⟩, ⟨.int .i64 6, .int .i64 2, 5⟩, ⟨.int .i64 7, .int .i64 3, 6⟩] 7 8 1 (by rfl)
  have gt := run_get (((w.alloc (.cells #[.int .i64 0, .string ⟨#[]⟩, .slice none 0 0, .int .i64 0, .int .i64 0] 24)).alloc (.cells cs 9)).alloc (.cells #[.int .i64 5, .string ⟨#[]⟩, .slice none 0 0, .int .i64 0, .int .i64 0] 24)) #[⟨.int .i64 1, .int .i64 3, 0⟩, ⟨.int .i64 2, .int .i64 2, 1⟩, ⟨.int .i64 3, .int .i64 1, 2⟩, ⟨.int .i64 4, .int .i64 1, 3⟩, ⟨.int .i64 5, .int .i64 2, 4⟩, ⟨.int .i64 6, .int .i64 2, 5⟩, ⟨.int .i64 7, .int .i64 3, 6⟩, ⟨.int .i64 8, .int .i64 1, 7⟩] 8 5 2 4 (by rfl)
  simp only [World.size_alloc, List.push_toArray, List.cons_append, List.nil_append, Nat.reduceAdd] at in1 in2 in3 in4 in5 in6 in7 in8 gt
  clear ix0 ix1 ix2 ix3 ix4 ix5 ix6 ix7 ix8
  go_wp2_with fail
  refine bodyPost_ret (v := .tuple #[.agg #[.int .i64 0, .string ⟨#[]⟩, .slice none 0 0, .int .i64 0, .int .i64 0], .bool false]) (by simp [results, Tryz.results47, go_sem]) rfl ⟨rfl, ?_⟩
  repeat (first | exact Below.refl _ _ | refine Below.drew ?_ | refine Below.alloc ?_ (by simp; try omega) _ | refine Below.setCell ?_ (by simp; try omega) _)

set_option maxRecDepth 100000 in
/-- A line whose first word is 'sweep', of 2 part(s): it is no step. -/
theorem step_sweep2 (q1 : ByteArray) (line : ByteArray) (w : World) (hw : WordsAt w) (h0 : 0 < w.heap.size) (hsh : ∀ W : World, Below w.heap.size w W → W.ShapedOpen Tryz.prog) (hs : Splits line [⟨#[115, 119, 101, 101, 112]⟩, q1]) :
    Calls Tryz.prog 47 #[.string line] w fun e w' => e = .returned (.tuple #[.agg #[.int .i64 0, .string ⟨#[]⟩, .slice none 0 0, .int .i64 0, .int .i64 0], .bool false]) ∧ Below w.heap.size w w' := by
  obtain ⟨a0, a1, a2, a3, a4, a5, a6, a7, a8⟩ := hw
  have ix0 : ∀ w : World, (Instr.index 94 (.agg #[.string ⟨#[]⟩, .string ⟨#[112, 117, 116]⟩, .string ⟨#[100, 114, 111, 112]⟩, .string ⟨#[98, 117, 105, 108, 100]⟩, .string ⟨#[112, 117, 98, 108, 105, 115, 104]⟩, .string ⟨#[114, 101, 97, 100]⟩, .string ⟨#[102, 117, 115, 101]⟩, .string ⟨#[99, 114, 97, 115, 104]⟩, .string ⟨#[115, 119, 101, 101, 112]⟩]) (.int .i64 0)).run Tryz.prog w = .ok (.string ⟨#[]⟩) w := fun _ => by kernel_rfl
  have ix1 : ∀ w : World, (Instr.index 94 (.agg #[.string ⟨#[]⟩, .string ⟨#[112, 117, 116]⟩, .string ⟨#[100, 114, 111, 112]⟩, .string ⟨#[98, 117, 105, 108, 100]⟩, .string ⟨#[112, 117, 98, 108, 105, 115, 104]⟩, .string ⟨#[114, 101, 97, 100]⟩, .string ⟨#[102, 117, 115, 101]⟩, .string ⟨#[99, 114, 97, 115, 104]⟩, .string ⟨#[115, 119, 101, 101, 112]⟩]) (.int .i64 1)).run Tryz.prog w = .ok (.string ⟨#[112, 117, 116]⟩) w := fun _ => by kernel_rfl
  have ix2 : ∀ w : World, (Instr.index 94 (.agg #[.string ⟨#[]⟩, .string ⟨#[112, 117, 116]⟩, .string ⟨#[100, 114, 111, 112]⟩, .string ⟨#[98, 117, 105, 108, 100]⟩, .string ⟨#[112, 117, 98, 108, 105, 115, 104]⟩, .string ⟨#[114, 101, 97, 100]⟩, .string ⟨#[102, 117, 115, 101]⟩, .string ⟨#[99, 114, 97, 115, 104]⟩, .string ⟨#[115, 119, 101, 101, 112]⟩]) (.int .i64 2)).run Tryz.prog w = .ok (.string ⟨#[100, 114, 111, 112]⟩) w := fun _ => by kernel_rfl
  have ix3 : ∀ w : World, (Instr.index 94 (.agg #[.string ⟨#[]⟩, .string ⟨#[112, 117, 116]⟩, .string ⟨#[100, 114, 111, 112]⟩, .string ⟨#[98, 117, 105, 108, 100]⟩, .string ⟨#[112, 117, 98, 108, 105, 115, 104]⟩, .string ⟨#[114, 101, 97, 100]⟩, .string ⟨#[102, 117, 115, 101]⟩, .string ⟨#[99, 114, 97, 115, 104]⟩, .string ⟨#[115, 119, 101, 101, 112]⟩]) (.int .i64 3)).run Tryz.prog w = .ok (.string ⟨#[98, 117, 105, 108, 100]⟩) w := fun _ => by kernel_rfl
  have ix4 : ∀ w : World, (Instr.index 94 (.agg #[.string ⟨#[]⟩, .string ⟨#[112, 117, 116]⟩, .string ⟨#[100, 114, 111, 112]⟩, .string ⟨#[98, 117, 105, 108, 100]⟩, .string ⟨#[112, 117, 98, 108, 105, 115, 104]⟩, .string ⟨#[114, 101, 97, 100]⟩, .string ⟨#[102, 117, 115, 101]⟩, .string ⟨#[99, 114, 97, 115, 104]⟩, .string ⟨#[115, 119, 101, 101, 112]⟩]) (.int .i64 4)).run Tryz.prog w = .ok (.string ⟨#[112, 117, 98, 108, 105, 115, 104]⟩) w := fun _ => by kernel_rfl
  have ix5 : ∀ w : World, (Instr.index 94 (.agg #[.string ⟨#[]⟩, .string ⟨#[112, 117, 116]⟩, .string ⟨#[100, 114, 111, 112]⟩, .string ⟨#[98, 117, 105, 108, 100]⟩, .string ⟨#[112, 117, 98, 108, 105, 115, 104]⟩, .string ⟨#[114, 101, 97, 100]⟩, .string ⟨#[102, 117, 115, 101]⟩, .string ⟨#[99, 114, 97, 115, 104]⟩, .string ⟨#[115, 119, 101, 101, 112]⟩]) (.int .i64 5)).run Tryz.prog w = .ok (.string ⟨#[114, 101, 97, 100]⟩) w := fun _ => by kernel_rfl
  have ix6 : ∀ w : World, (Instr.index 94 (.agg #[.string ⟨#[]⟩, .string ⟨#[112, 117, 116]⟩, .string ⟨#[100, 114, 111, 112]⟩, .string ⟨#[98, 117, 105, 108, 100]⟩, .string ⟨#[112, 117, 98, 108, 105, 115, 104]⟩, .string ⟨#[114, 101, 97, 100]⟩, .string ⟨#[102, 117, 115, 101]⟩, .string ⟨#[99, 114, 97, 115, 104]⟩, .string ⟨#[115, 119, 101, 101, 112]⟩]) (.int .i64 6)).run Tryz.prog w = .ok (.string ⟨#[102, 117, 115, 101]⟩) w := fun _ => by kernel_rfl
  have ix7 : ∀ w : World, (Instr.index 94 (.agg #[.string ⟨#[]⟩, .string ⟨#[112, 117, 116]⟩, .string ⟨#[100, 114, 111, 112]⟩, .string ⟨#[98, 117, 105, 108, 100]⟩, .string ⟨#[112, 117, 98, 108, 105, 115, 104]⟩, .string ⟨#[114, 101, 97, 100]⟩, .string ⟨#[102, 117, 115, 101]⟩, .string ⟨#[99, 114, 97, 115, 104]⟩, .string ⟨#[115, 119, 101, 101, 112]⟩]) (.int .i64 7)).run Tryz.prog w = .ok (.string ⟨#[99, 114, 97, 115, 104]⟩) w := fun _ => by kernel_rfl
  have ix8 : ∀ w : World, (Instr.index 94 (.agg #[.string ⟨#[]⟩, .string ⟨#[112, 117, 116]⟩, .string ⟨#[100, 114, 111, 112]⟩, .string ⟨#[98, 117, 105, 108, 100]⟩, .string ⟨#[112, 117, 98, 108, 105, 115, 104]⟩, .string ⟨#[114, 101, 97, 100]⟩, .string ⟨#[102, 117, 115, 101]⟩, .string ⟨#[99, 114, 97, 115, 104]⟩, .string ⟨#[115, 119, 101, 101, 112]⟩]) (.int .i64 8)).run Tryz.prog w = .ok (.string ⟨#[115, 119, 101, 101, 112]⟩) w := fun _ => by kernel_rfl
  have hmm := @run_makeMap Tryz.prog
  obtain ⟨cap, hs⟩ := hs (w.alloc (.cells #[.int .i64 0, .string ⟨#[]⟩, .slice none 0 0, .int .i64 0, .int .i64 0] 24)) (hsh _ ((Below.refl _ _).alloc (Nat.le_refl _) _))
  go_enter Tryz.func47, Tryz.ntmps47
  go_wp2_with fail
  refine hs.mono ?_
  rintro e w1 ⟨rfl, cs, rfl, hc⟩
  have p0 := hc 0 (by simp)
  have p1 := hc 1 (by simp)
  simp only [List.getElem_cons_zero, List.getElem_cons_succ] at p0 p1
  clear hc hs
  go_wp2_with fail
  clear a0 a1 a2 a3 a4 a5 a6 a7 a8
  refine wp_loop_rounds 10 ?_
  iterate 9 (rw [rounds_succ]; go_wp2_with fail)
  rw [rounds_succ]
  go_upto_region 9 with (fail)
  have in1 := run_put (((w.alloc (.cells #[.int .i64 0, .string ⟨#[]⟩, .slice none 0 0, .int .i64 0, .int .i64 0] 24)).alloc (.cells cs 9)).alloc (.cells #[.int .i64 8, .string ⟨#[]⟩, .slice none 0 0, .int .i64 0, .int .i64 0] 24)) #[] 0 1 3 (by rfl)
  have in2 := run_put (((w.alloc (.cells #[.int .i64 0, .string ⟨#[]⟩, .slice none 0 0, .int .i64 0, .int .i64 0] 24)).alloc (.cells cs 9)).alloc (.cells #[.int .i64 8, .string ⟨#[]⟩, .slice none 0 0, .int .i64 0, .int .i64 0] 24)) #[⟨.int .i64 1, .int .i64 3, 0⟩] 1 2 2 (by rfl)
  have in3 := run_put (((w.alloc (.cells #[.int .i64 0, .string ⟨#[]⟩, .slice none 0 0, .int .i64 0, .int .i64 0] 24)).alloc (.cells cs 9)).alloc (.cells #[.int .i64 8, .string ⟨#[]⟩, .slice none 0 0, .int .i64 0, .int .i64 0] 24)) #[⟨.int .i64 1, .int .i64 3, 0⟩, ⟨.int .i64 2, .int .i64 2, 1⟩] 2 3 1 (by rfl)
  have in4 := run_put (((w.alloc (.cells #[.int .i64 0, .string ⟨#[]⟩, .slice none 0 0, .int .i64 0, .int .i64 0] 24)).alloc (.cells cs 9)).alloc (.cells #[.int .i64 8, .string ⟨#[]⟩, .slice none 0 0, .int .i64 0, .int .i64 0] 24)) #[⟨.int .i64 1, .int .i64 3, 0⟩, ⟨.int .i64 2, .int .i64 2, 1⟩, ⟨.int .i64 3, .int .i64 1, 2⟩] 3 4 1 (by rfl)
  have in5 := run_put (((w.alloc (.cells #[.int .i64 0, .string ⟨#[]⟩, .slice none 0 0, .int .i64 0, .int .i64 0] 24)).alloc (.cells cs 9)).alloc (.cells #[.int .i64 8, .string ⟨#[]⟩, .slice none 0 0, .int .i64 0, .int .i64 0] 24)) #[⟨.int .i64 1, .int .i64 3, 0⟩, ⟨.int .i64 2, .int .i64 2, 1⟩, ⟨.int .i64 3, .int .i64 1, 2⟩, ⟨.int .i64 4, .int .i64 1, 3⟩] 4 5 2 (by rfl)
  have in6 := run_put (((w.alloc (.cells #[.int .i64 0, .string ⟨#[]⟩, .slice none 0 0, .int .i64 0, .int .i64 0] 24)).alloc (.cells cs 9)).alloc (.cells #[.int .i64 8, .string ⟨#[]⟩, .slice none 0 0, .int .i64 0, .int .i64 0] 24)) #[⟨.int .i64 1, .int .i64 3, 0⟩, ⟨.int .i64 2, .int .i64 2, 1⟩, ⟨.int .i64 3, .int .i64 1, 2⟩, ⟨.int .i64 4, .int .i64 1, 3⟩, ⟨.int .i64 5, .int .i64 2, 4⟩] 5 6 2 (by rfl)
  have in7 := run_put (((w.alloc (.cells #[.int .i64 0, .string ⟨#[]⟩, .slice none 0 0, .int .i64 0, .int .i64 0] 24)).alloc (.cells cs 9)).alloc (.cells #[.int .i64 8, .string ⟨#[]⟩, .slice none 0 0, .int .i64 0, .int .i64 0] 24)) #[⟨.int .i64 1, .int .i64 3, 0⟩, ⟨.int .i64 2, .int .i64 2, 1⟩, ⟨.int .i64 3, .int .i64 1, 2⟩, ⟨.int .i64 4, .int .i64 1, 3⟩, ⟨.int .i64 5, .int .i64 2, 4⟩, ⟨.int .i64 6, .int .i64 2, 5⟩] 6 7 3 (by rfl)
  have in8 := run_put (((w.alloc (.cells #[.int .i64 0, .string ⟨#[]⟩, .slice none 0 0, .int .i64 0, .int .i64 0] 24)).alloc (.cells cs 9)).alloc (.cells #[.int .i64 8, .string ⟨#[]⟩, .slice none 0 0, .int .i64 0, .int .i64 0] 24)) #[⟨.int .i64 1, .int .i64 3, 0⟩, ⟨.int .i64 2, .int .i64 2, 1⟩, ⟨.int .i64 3, .int .i64 1, 2⟩, ⟨.int .i64 4, .int .i64 1, 3⟩, ⟨.int .i64 5, .int .i64 2, 4⟩, ⟨.int .i64 6, .int .i64 2, 5⟩, ⟨.int .i64 7, .int .i64 3, 6⟩] 7 8 1 (by rfl)
  have gt := run_get (((w.alloc (.cells #[.int .i64 0, .string ⟨#[]⟩, .slice none 0 0, .int .i64 0, .int .i64 0] 24)).alloc (.cells cs 9)).alloc (.cells #[.int .i64 8, .string ⟨#[]⟩, .slice none 0 0, .int .i64 0, .int .i64 0] 24)) #[⟨.int .i64 1, .int .i64 3, 0⟩, ⟨.int .i64 2, .int .i64 2, 1⟩, ⟨.int .i64 3, .int .i64 1, 2⟩, ⟨.int .i64 4, .int .i64 1, 3⟩, ⟨.int .i64 5, .int .i64 2, 4⟩, ⟨.int .i64 6, .int .i64 2, 5⟩, ⟨.int .i64 7, .int .i64 3, 6⟩, ⟨.int .i64 8, .int .i64 1, 7⟩] 8 8 1 7 (by rfl)
  simp only [World.size_alloc, List.push_toArray, List.cons_append, List.nil_append, Nat.reduceAdd] at in1 in2 in3 in4 in5 in6 in7 in8 gt
  clear ix0 ix1 ix2 ix3 ix4 ix5 ix6 ix7 ix8
  go_wp2_with fail
  refine bodyPost_ret (v := .tuple #[.agg #[.int .i64 0, .string ⟨#[]⟩, .slice none 0 0, .int .i64 0, .int .i64 0], .bool false]) (by simp [results, Tryz.results47, go_sem]) rfl ⟨rfl, ?_⟩
  repeat (first | exact Below.refl _ _ | refine Below.drew ?_ | refine Below.alloc ?_ (by simp; try omega) _ | refine Below.setCell ?_ (by simp; try omega) _)

set_option maxRecDepth 100000 in
/-- A line whose first word is 'none of them', of 1 part(s): it is no step. -/
theorem step_none1 (p : ByteArray) (n1 : (([112, 117, 116] : List UInt8) == p.toList) = false) (n2 : (([100, 114, 111, 112] : List UInt8) == p.toList) = false) (n3 : (([98, 117, 105, 108, 100] : List UInt8) == p.toList) = false) (n4 : (([112, 117, 98, 108, 105, 115, 104] : List UInt8) == p.toList) = false) (n5 : (([114, 101, 97, 100] : List UInt8) == p.toList) = false) (n6 : (([102, 117, 115, 101] : List UInt8) == p.toList) = false) (n7 : (([99, 114, 97, 115, 104] : List UInt8) == p.toList) = false) (n8 : (([115, 119, 101, 101, 112] : List UInt8) == p.toList) = false) (line : ByteArray) (w : World) (hw : WordsAt w) (h0 : 0 < w.heap.size) (hsh : ∀ W : World, Below w.heap.size w W → W.ShapedOpen Tryz.prog) (hs : Splits line [p]) :
    Calls Tryz.prog 47 #[.string line] w fun e w' => e = .returned (.tuple #[.agg #[.int .i64 0, .string ⟨#[]⟩, .slice none 0 0, .int .i64 0, .int .i64 0], .bool false]) ∧ Below w.heap.size w w' := by
  obtain ⟨a0, a1, a2, a3, a4, a5, a6, a7, a8⟩ := hw
  have ix0 : ∀ w : World, (Instr.index 94 (.agg #[.string ⟨#[]⟩, .string ⟨#[112, 117, 116]⟩, .string ⟨#[100, 114, 111, 112]⟩, .string ⟨#[98, 117, 105, 108, 100]⟩, .string ⟨#[112, 117, 98, 108, 105, 115, 104]⟩, .string ⟨#[114, 101, 97, 100]⟩, .string ⟨#[102, 117, 115, 101]⟩, .string ⟨#[99, 114, 97, 115, 104]⟩, .string ⟨#[115, 119, 101, 101, 112]⟩]) (.int .i64 0)).run Tryz.prog w = .ok (.string ⟨#[]⟩) w := fun _ => by kernel_rfl
  have ix1 : ∀ w : World, (Instr.index 94 (.agg #[.string ⟨#[]⟩, .string ⟨#[112, 117, 116]⟩, .string ⟨#[100, 114, 111, 112]⟩, .string ⟨#[98, 117, 105, 108, 100]⟩, .string ⟨#[112, 117, 98, 108, 105, 115, 104]⟩, .string ⟨#[114, 101, 97, 100]⟩, .string ⟨#[102, 117, 115, 101]⟩, .string ⟨#[99, 114, 97, 115, 104]⟩, .string ⟨#[115, 119, 101, 101, 112]⟩]) (.int .i64 1)).run Tryz.prog w = .ok (.string ⟨#[112, 117, 116]⟩) w := fun _ => by kernel_rfl
  have ix2 : ∀ w : World, (Instr.index 94 (.agg #[.string ⟨#[]⟩, .string ⟨#[112, 117, 116]⟩, .string ⟨#[100, 114, 111, 112]⟩, .string ⟨#[98, 117, 105, 108, 100]⟩, .string ⟨#[112, 117, 98, 108, 105, 115, 104]⟩, .string ⟨#[114, 101, 97, 100]⟩, .string ⟨#[102, 117, 115, 101]⟩, .string ⟨#[99, 114, 97, 115, 104]⟩, .string ⟨#[115, 119, 101, 101, 112]⟩]) (.int .i64 2)).run Tryz.prog w = .ok (.string ⟨#[100, 114, 111, 112]⟩) w := fun _ => by kernel_rfl
  have ix3 : ∀ w : World, (Instr.index 94 (.agg #[.string ⟨#[]⟩, .string ⟨#[112, 117, 116]⟩, .string ⟨#[100, 114, 111, 112]⟩, .string ⟨#[98, 117, 105, 108, 100]⟩, .string ⟨#[112, 117, 98, 108, 105, 115, 104]⟩, .string ⟨#[114, 101, 97, 100]⟩, .string ⟨#[102, 117, 115, 101]⟩, .string ⟨#[99, 114, 97, 115, 104]⟩, .string ⟨#[115, 119, 101, 101, 112]⟩]) (.int .i64 3)).run Tryz.prog w = .ok (.string ⟨#[98, 117, 105, 108, 100]⟩) w := fun _ => by kernel_rfl
  have ix4 : ∀ w : World, (Instr.index 94 (.agg #[.string ⟨#[]⟩, .string ⟨#[112, 117, 116]⟩, .string ⟨#[100, 114, 111, 112]⟩, .string ⟨#[98, 117, 105, 108, 100]⟩, .string ⟨#[112, 117, 98, 108, 105, 115, 104]⟩, .string ⟨#[114, 101, 97, 100]⟩, .string ⟨#[102, 117, 115, 101]⟩, .string ⟨#[99, 114, 97, 115, 104]⟩, .string ⟨#[115, 119, 101, 101, 112]⟩]) (.int .i64 4)).run Tryz.prog w = .ok (.string ⟨#[112, 117, 98, 108, 105, 115, 104]⟩) w := fun _ => by kernel_rfl
  have ix5 : ∀ w : World, (Instr.index 94 (.agg #[.string ⟨#[]⟩, .string ⟨#[112, 117, 116]⟩, .string ⟨#[100, 114, 111, 112]⟩, .string ⟨#[98, 117, 105, 108, 100]⟩, .string ⟨#[112, 117, 98, 108, 105, 115, 104]⟩, .string ⟨#[114, 101, 97, 100]⟩, .string ⟨#[102, 117, 115, 101]⟩, .string ⟨#[99, 114, 97, 115, 104]⟩, .string ⟨#[115, 119, 101, 101, 112]⟩]) (.int .i64 5)).run Tryz.prog w = .ok (.string ⟨#[114, 101, 97, 100]⟩) w := fun _ => by kernel_rfl
  have ix6 : ∀ w : World, (Instr.index 94 (.agg #[.string ⟨#[]⟩, .string ⟨#[112, 117, 116]⟩, .string ⟨#[100, 114, 111, 112]⟩, .string ⟨#[98, 117, 105, 108, 100]⟩, .string ⟨#[112, 117, 98, 108, 105, 115, 104]⟩, .string ⟨#[114, 101, 97, 100]⟩, .string ⟨#[102, 117, 115, 101]⟩, .string ⟨#[99, 114, 97, 115, 104]⟩, .string ⟨#[115, 119, 101, 101, 112]⟩]) (.int .i64 6)).run Tryz.prog w = .ok (.string ⟨#[102, 117, 115, 101]⟩) w := fun _ => by kernel_rfl
  have ix7 : ∀ w : World, (Instr.index 94 (.agg #[.string ⟨#[]⟩, .string ⟨#[112, 117, 116]⟩, .string ⟨#[100, 114, 111, 112]⟩, .string ⟨#[98, 117, 105, 108, 100]⟩, .string ⟨#[112, 117, 98, 108, 105, 115, 104]⟩, .string ⟨#[114, 101, 97, 100]⟩, .string ⟨#[102, 117, 115, 101]⟩, .string ⟨#[99, 114, 97, 115, 104]⟩, .string ⟨#[115, 119, 101, 101, 112]⟩]) (.int .i64 7)).run Tryz.prog w = .ok (.string ⟨#[99, 114, 97, 115, 104]⟩) w := fun _ => by kernel_rfl
  have ix8 : ∀ w : World, (Instr.index 94 (.agg #[.string ⟨#[]⟩, .string ⟨#[112, 117, 116]⟩, .string ⟨#[100, 114, 111, 112]⟩, .string ⟨#[98, 117, 105, 108, 100]⟩, .string ⟨#[112, 117, 98, 108, 105, 115, 104]⟩, .string ⟨#[114, 101, 97, 100]⟩, .string ⟨#[102, 117, 115, 101]⟩, .string ⟨#[99, 114, 97, 115, 104]⟩, .string ⟨#[115, 119, 101, 101, 112]⟩]) (.int .i64 8)).run Tryz.prog w = .ok (.string ⟨#[115, 119, 101, 101, 112]⟩) w := fun _ => by kernel_rfl
  have hmm := @run_makeMap Tryz.prog
  obtain ⟨cap, hs⟩ := hs (w.alloc (.cells #[.int .i64 0, .string ⟨#[]⟩, .slice none 0 0, .int .i64 0, .int .i64 0] 24)) (hsh _ ((Below.refl _ _).alloc (Nat.le_refl _) _))
  go_enter Tryz.func47, Tryz.ntmps47
  go_wp2_with fail
  refine hs.mono ?_
  rintro e w1 ⟨rfl, cs, rfl, hc⟩
  have p0 := hc 0 (by simp)
  simp only [List.getElem_cons_zero] at p0
  clear hc hs
  go_wp2_with fail
  clear a0 a1 a2 a3 a4 a5 a6 a7 a8
  refine wp_loop_rounds 10 ?_
  iterate 9 (rw [rounds_succ]; go_wp2_with fail)
  rw [rounds_succ]
  go_upto_region 9 with (fail)
  have in1 := run_put (((w.alloc (.cells #[.int .i64 0, .string ⟨#[]⟩, .slice none 0 0, .int .i64 0, .int .i64 0] 24)).alloc (.cells cs 9)).alloc (.cells #[.int .i64 0, .string ⟨#[]⟩, .slice none 0 0, .int .i64 0, .int .i64 0] 24)) #[] 0 1 3 (by rfl)
  have in2 := run_put (((w.alloc (.cells #[.int .i64 0, .string ⟨#[]⟩, .slice none 0 0, .int .i64 0, .int .i64 0] 24)).alloc (.cells cs 9)).alloc (.cells #[.int .i64 0, .string ⟨#[]⟩, .slice none 0 0, .int .i64 0, .int .i64 0] 24)) #[⟨.int .i64 1, .int .i64 3, 0⟩] 1 2 2 (by rfl)
  have in3 := run_put (((w.alloc (.cells #[.int .i64 0, .string ⟨#[]⟩, .slice none 0 0, .int .i64 0, .int .i64 0] 24)).alloc (.cells cs 9)).alloc (.cells #[.int .i64 0, .string ⟨#[]⟩, .slice none 0 0, .int .i64 0, .int .i64 0] 24)) #[⟨.int .i64 1, .int .i64 3, 0⟩, ⟨.int .i64 2, .int .i64 2, 1⟩] 2 3 1 (by rfl)
  have in4 := run_put (((w.alloc (.cells #[.int .i64 0, .string ⟨#[]⟩, .slice none 0 0, .int .i64 0, .int .i64 0] 24)).alloc (.cells cs 9)).alloc (.cells #[.int .i64 0, .string ⟨#[]⟩, .slice none 0 0, .int .i64 0, .int .i64 0] 24)) #[⟨.int .i64 1, .int .i64 3, 0⟩, ⟨.int .i64 2, .int .i64 2, 1⟩, ⟨.int .i64 3, .int .i64 1, 2⟩] 3 4 1 (by rfl)
  have in5 := run_put (((w.alloc (.cells #[.int .i64 0, .string ⟨#[]⟩, .slice none 0 0, .int .i64 0, .int .i64 0] 24)).alloc (.cells cs 9)).alloc (.cells #[.int .i64 0, .string ⟨#[]⟩, .slice none 0 0, .int .i64 0, .int .i64 0] 24)) #[⟨.int .i64 1, .int .i64 3, 0⟩, ⟨.int .i64 2, .int .i64 2, 1⟩, ⟨.int .i64 3, .int .i64 1, 2⟩, ⟨.int .i64 4, .int .i64 1, 3⟩] 4 5 2 (by rfl)
  have in6 := run_put (((w.alloc (.cells #[.int .i64 0, .string ⟨#[]⟩, .slice none 0 0, .int .i64 0, .int .i64 0] 24)).alloc (.cells cs 9)).alloc (.cells #[.int .i64 0, .string ⟨#[]⟩, .slice none 0 0, .int .i64 0, .int .i64 0] 24)) #[⟨.int .i64 1, .int .i64 3, 0⟩, ⟨.int .i64 2, .int .i64 2, 1⟩, ⟨.int .i64 3, .int .i64 1, 2⟩, ⟨.int .i64 4, .int .i64 1, 3⟩, ⟨.int .i64 5, .int .i64 2, 4⟩] 5 6 2 (by rfl)
  have in7 := run_put (((w.alloc (.cells #[.int .i64 0, .string ⟨#[]⟩, .slice none 0 0, .int .i64 0, .int .i64 0] 24)).alloc (.cells cs 9)).alloc (.cells #[.int .i64 0, .string ⟨#[]⟩, .slice none 0 0, .int .i64 0, .int .i64 0] 24)) #[⟨.int .i64 1, .int .i64 3, 0⟩, ⟨.int .i64 2, .int .i64 2, 1⟩, ⟨.int .i64 3, .int .i64 1, 2⟩, ⟨.int .i64 4, .int .i64 1, 3⟩, ⟨.int .i64 5, .int .i64 2, 4⟩, ⟨.int .i64 6, .int .i64 2, 5⟩] 6 7 3 (by rfl)
  have in8 := run_put (((w.alloc (.cells #[.int .i64 0, .string ⟨#[]⟩, .slice none 0 0, .int .i64 0, .int .i64 0] 24)).alloc (.cells cs 9)).alloc (.cells #[.int .i64 0, .string ⟨#[]⟩, .slice none 0 0, .int .i64 0, .int .i64 0] 24)) #[⟨.int .i64 1, .int .i64 3, 0⟩, ⟨.int .i64 2, .int .i64 2, 1⟩, ⟨.int .i64 3, .int .i64 1, 2⟩, ⟨.int .i64 4, .int .i64 1, 3⟩, ⟨.int .i64 5, .int .i64 2, 4⟩, ⟨.int .i64 6, .int .i64 2, 5⟩, ⟨.int .i64 7, .int .i64 3, 6⟩] 7 8 1 (by rfl)
  have gt := run_get_none (((w.alloc (.cells #[.int .i64 0, .string ⟨#[]⟩, .slice none 0 0, .int .i64 0, .int .i64 0] 24)).alloc (.cells cs 9)).alloc (.cells #[.int .i64 0, .string ⟨#[]⟩, .slice none 0 0, .int .i64 0, .int .i64 0] 24)) #[⟨.int .i64 1, .int .i64 3, 0⟩, ⟨.int .i64 2, .int .i64 2, 1⟩, ⟨.int .i64 3, .int .i64 1, 2⟩, ⟨.int .i64 4, .int .i64 1, 3⟩, ⟨.int .i64 5, .int .i64 2, 4⟩, ⟨.int .i64 6, .int .i64 2, 5⟩, ⟨.int .i64 7, .int .i64 3, 6⟩, ⟨.int .i64 8, .int .i64 1, 7⟩] 8 0 (by rfl)
  simp only [World.size_alloc, List.push_toArray, List.cons_append, List.nil_append, Nat.reduceAdd] at in1 in2 in3 in4 in5 in6 in7 in8 gt
  clear ix0 ix1 ix2 ix3 ix4 ix5 ix6 ix7 ix8
  go_wp2_with fail
  refine bodyPost_ret (v := .tuple #[.agg #[.int .i64 0, .string ⟨#[]⟩, .slice none 0 0, .int .i64 0, .int .i64 0], .bool false]) (by simp [results, Tryz.results47, go_sem]) rfl ⟨rfl, ?_⟩
  repeat (first | exact Below.refl _ _ | refine Below.drew ?_ | refine Below.alloc ?_ (by simp; try omega) _ | refine Below.setCell ?_ (by simp; try omega) _)

set_option maxRecDepth 100000 in
/-- A line whose first word is 'none of them', of 2 part(s): it is no step. -/
theorem step_none2 (p : ByteArray) (q1 : ByteArray) (n1 : (([112, 117, 116] : List UInt8) == p.toList) = false) (n2 : (([100, 114, 111, 112] : List UInt8) == p.toList) = false) (n3 : (([98, 117, 105, 108, 100] : List UInt8) == p.toList) = false) (n4 : (([112, 117, 98, 108, 105, 115, 104] : List UInt8) == p.toList) = false) (n5 : (([114, 101, 97, 100] : List UInt8) == p.toList) = false) (n6 : (([102, 117, 115, 101] : List UInt8) == p.toList) = false) (n7 : (([99, 114, 97, 115, 104] : List UInt8) == p.toList) = false) (n8 : (([115, 119, 101, 101, 112] : List UInt8) == p.toList) = false) (line : ByteArray) (w : World) (hw : WordsAt w) (h0 : 0 < w.heap.size) (hsh : ∀ W : World, Below w.heap.size w W → W.ShapedOpen Tryz.prog) (hs : Splits line [p, q1]) :
    Calls Tryz.prog 47 #[.string line] w fun e w' => e = .returned (.tuple #[.agg #[.int .i64 0, .string ⟨#[]⟩, .slice none 0 0, .int .i64 0, .int .i64 0], .bool false]) ∧ Below w.heap.size w w' := by
  obtain ⟨a0, a1, a2, a3, a4, a5, a6, a7, a8⟩ := hw
  have ix0 : ∀ w : World, (Instr.index 94 (.agg #[.string ⟨#[]⟩, .string ⟨#[112, 117, 116]⟩, .string ⟨#[100, 114, 111, 112]⟩, .string ⟨#[98, 117, 105, 108, 100]⟩, .string ⟨#[112, 117, 98, 108, 105, 115, 104]⟩, .string ⟨#[114, 101, 97, 100]⟩, .string ⟨#[102, 117, 115, 101]⟩, .string ⟨#[99, 114, 97, 115, 104]⟩, .string ⟨#[115, 119, 101, 101, 112]⟩]) (.int .i64 0)).run Tryz.prog w = .ok (.string ⟨#[]⟩) w := fun _ => by kernel_rfl
  have ix1 : ∀ w : World, (Instr.index 94 (.agg #[.string ⟨#[]⟩, .string ⟨#[112, 117, 116]⟩, .string ⟨#[100, 114, 111, 112]⟩, .string ⟨#[98, 117, 105, 108, 100]⟩, .string ⟨#[112, 117, 98, 108, 105, 115, 104]⟩, .string ⟨#[114, 101, 97, 100]⟩, .string ⟨#[102, 117, 115, 101]⟩, .string ⟨#[99, 114, 97, 115, 104]⟩, .string ⟨#[115, 119, 101, 101, 112]⟩]) (.int .i64 1)).run Tryz.prog w = .ok (.string ⟨#[112, 117, 116]⟩) w := fun _ => by kernel_rfl
  have ix2 : ∀ w : World, (Instr.index 94 (.agg #[.string ⟨#[]⟩, .string ⟨#[112, 117, 116]⟩, .string ⟨#[100, 114, 111, 112]⟩, .string ⟨#[98, 117, 105, 108, 100]⟩, .string ⟨#[112, 117, 98, 108, 105, 115, 104]⟩, .string ⟨#[114, 101, 97, 100]⟩, .string ⟨#[102, 117, 115, 101]⟩, .string ⟨#[99, 114, 97, 115, 104]⟩, .string ⟨#[115, 119, 101, 101, 112]⟩]) (.int .i64 2)).run Tryz.prog w = .ok (.string ⟨#[100, 114, 111, 112]⟩) w := fun _ => by kernel_rfl
  have ix3 : ∀ w : World, (Instr.index 94 (.agg #[.string ⟨#[]⟩, .string ⟨#[112, 117, 116]⟩, .string ⟨#[100, 114, 111, 112]⟩, .string ⟨#[98, 117, 105, 108, 100]⟩, .string ⟨#[112, 117, 98, 108, 105, 115, 104]⟩, .string ⟨#[114, 101, 97, 100]⟩, .string ⟨#[102, 117, 115, 101]⟩, .string ⟨#[99, 114, 97, 115, 104]⟩, .string ⟨#[115, 119, 101, 101, 112]⟩]) (.int .i64 3)).run Tryz.prog w = .ok (.string ⟨#[98, 117, 105, 108, 100]⟩) w := fun _ => by kernel_rfl
  have ix4 : ∀ w : World, (Instr.index 94 (.agg #[.string ⟨#[]⟩, .string ⟨#[112, 117, 116]⟩, .string ⟨#[100, 114, 111, 112]⟩, .string ⟨#[98, 117, 105, 108, 100]⟩, .string ⟨#[112, 117, 98, 108, 105, 115, 104]⟩, .string ⟨#[114, 101, 97, 100]⟩, .string ⟨#[102, 117, 115, 101]⟩, .string ⟨#[99, 114, 97, 115, 104]⟩, .string ⟨#[115, 119, 101, 101, 112]⟩]) (.int .i64 4)).run Tryz.prog w = .ok (.string ⟨#[112, 117, 98, 108, 105, 115, 104]⟩) w := fun _ => by kernel_rfl
  have ix5 : ∀ w : World, (Instr.index 94 (.agg #[.string ⟨#[]⟩, .string ⟨#[112, 117, 116]⟩, .string ⟨#[100, 114, 111, 112]⟩, .string ⟨#[98, 117, 105, 108, 100]⟩, .string ⟨#[112, 117, 98, 108, 105, 115, 104]⟩, .string ⟨#[114, 101, 97, 100]⟩, .string ⟨#[102, 117, 115, 101]⟩, .string ⟨#[99, 114, 97, 115, 104]⟩, .string ⟨#[115, 119, 101, 101, 112]⟩]) (.int .i64 5)).run Tryz.prog w = .ok (.string ⟨#[114, 101, 97, 100]⟩) w := fun _ => by kernel_rfl
  have ix6 : ∀ w : World, (Instr.index 94 (.agg #[.string ⟨#[]⟩, .string ⟨#[112, 117, 116]⟩, .string ⟨#[100, 114, 111, 112]⟩, .string ⟨#[98, 117, 105, 108, 100]⟩, .string ⟨#[112, 117, 98, 108, 105, 115, 104]⟩, .string ⟨#[114, 101, 97, 100]⟩, .string ⟨#[102, 117, 115, 101]⟩, .string ⟨#[99, 114, 97, 115, 104]⟩, .string ⟨#[115, 119, 101, 101, 112]⟩]) (.int .i64 6)).run Tryz.prog w = .ok (.string ⟨#[102, 117, 115, 101]⟩) w := fun _ => by kernel_rfl
  have ix7 : ∀ w : World, (Instr.index 94 (.agg #[.string ⟨#[]⟩, .string ⟨#[112, 117, 116]⟩, .string ⟨#[100, 114, 111, 112]⟩, .string ⟨#[98, 117, 105, 108, 100]⟩, .string ⟨#[112, 117, 98, 108, 105, 115, 104]⟩, .string ⟨#[114, 101, 97, 100]⟩, .string ⟨#[102, 117, 115, 101]⟩, .string ⟨#[99, 114, 97, 115, 104]⟩, .string ⟨#[115, 119, 101, 101, 112]⟩]) (.int .i64 7)).run Tryz.prog w = .ok (.string ⟨#[99, 114, 97, 115, 104]⟩) w := fun _ => by kernel_rfl
  have ix8 : ∀ w : World, (Instr.index 94 (.agg #[.string ⟨#[]⟩, .string ⟨#[112, 117, 116]⟩, .string ⟨#[100, 114, 111, 112]⟩, .string ⟨#[98, 117, 105, 108, 100]⟩, .string ⟨#[112, 117, 98, 108, 105, 115, 104]⟩, .string ⟨#[114, 101, 97, 100]⟩, .string ⟨#[102, 117, 115, 101]⟩, .string ⟨#[99, 114, 97, 115, 104]⟩, .string ⟨#[115, 119, 101, 101, 112]⟩]) (.int .i64 8)).run Tryz.prog w = .ok (.string ⟨#[115, 119, 101, 101, 112]⟩) w := fun _ => by kernel_rfl
  have hmm := @run_makeMap Tryz.prog
  obtain ⟨cap, hs⟩ := hs (w.alloc (.cells #[.int .i64 0, .string ⟨#[]⟩, .slice none 0 0, .int .i64 0, .int .i64 0] 24)) (hsh _ ((Below.refl _ _).alloc (Nat.le_refl _) _))
  go_enter Tryz.func47, Tryz.ntmps47
  go_wp2_with fail
  refine hs.mono ?_
  rintro e w1 ⟨rfl, cs, rfl, hc⟩
  have p0 := hc 0 (by simp)
  have p1 := hc 1 (by simp)
  simp only [List.getElem_cons_zero, List.getElem_cons_succ] at p0 p1
  clear hc hs
  go_wp2_with fail
  clear a0 a1 a2 a3 a4 a5 a6 a7 a8
  refine wp_loop_rounds 10 ?_
  iterate 9 (rw [rounds_succ]; go_wp2_with fail)
  rw [rounds_succ]
  go_upto_region 9 with (fail)
  have in1 := run_put (((w.alloc (.cells #[.int .i64 0, .string ⟨#[]⟩, .slice none 0 0, .int .i64 0, .int .i64 0] 24)).alloc (.cells cs 9)).alloc (.cells #[.int .i64 0, .string ⟨#[]⟩, .slice none 0 0, .int .i64 0, .int .i64 0] 24)) #[] 0 1 3 (by rfl)
  have in2 := run_put (((w.alloc (.cells #[.int .i64 0, .string ⟨#[]⟩, .slice none 0 0, .int .i64 0, .int .i64 0] 24)).alloc (.cells cs 9)).alloc (.cells #[.int .i64 0, .string ⟨#[]⟩, .slice none 0 0, .int .i64 0, .int .i64 0] 24)) #[⟨.int .i64 1, .int .i64 3, 0⟩] 1 2 2 (by rfl)
  have in3 := run_put (((w.alloc (.cells #[.int .i64 0, .string ⟨#[]⟩, .slice none 0 0, .int .i64 0, .int .i64 0] 24)).alloc (.cells cs 9)).alloc (.cells #[.int .i64 0, .string ⟨#[]⟩, .slice none 0 0, .int .i64 0, .int .i64 0] 24)) #[⟨.int .i64 1, .int .i64 3, 0⟩, ⟨.int .i64 2, .int .i64 2, 1⟩] 2 3 1 (by rfl)
  have in4 := run_put (((w.alloc (.cells #[.int .i64 0, .string ⟨#[]⟩, .slice none 0 0, .int .i64 0, .int .i64 0] 24)).alloc (.cells cs 9)).alloc (.cells #[.int .i64 0, .string ⟨#[]⟩, .slice none 0 0, .int .i64 0, .int .i64 0] 24)) #[⟨.int .i64 1, .int .i64 3, 0⟩, ⟨.int .i64 2, .int .i64 2, 1⟩, ⟨.int .i64 3, .int .i64 1, 2⟩] 3 4 1 (by rfl)
  have in5 := run_put (((w.alloc (.cells #[.int .i64 0, .string ⟨#[]⟩, .slice none 0 0, .int .i64 0, .int .i64 0] 24)).alloc (.cells cs 9)).alloc (.cells #[.int .i64 0, .string ⟨#[]⟩, .slice none 0 0, .int .i64 0, .int .i64 0] 24)) #[⟨.int .i64 1, .int .i64 3, 0⟩, ⟨.int .i64 2, .int .i64 2, 1⟩, ⟨.int .i64 3, .int .i64 1, 2⟩, ⟨.int .i64 4, .int .i64 1, 3⟩] 4 5 2 (by rfl)
  have in6 := run_put (((w.alloc (.cells #[.int .i64 0, .string ⟨#[]⟩, .slice none 0 0, .int .i64 0, .int .i64 0] 24)).alloc (.cells cs 9)).alloc (.cells #[.int .i64 0, .string ⟨#[]⟩, .slice none 0 0, .int .i64 0, .int .i64 0] 24)) #[⟨.int .i64 1, .int .i64 3, 0⟩, ⟨.int .i64 2, .int .i64 2, 1⟩, ⟨.int .i64 3, .int .i64 1, 2⟩, ⟨.int .i64 4, .int .i64 1, 3⟩, ⟨.int .i64 5, .int .i64 2, 4⟩] 5 6 2 (by rfl)
  have in7 := run_put (((w.alloc (.cells #[.int .i64 0, .string ⟨#[]⟩, .slice none 0 0, .int .i64 0, .int .i64 0] 24)).alloc (.cells cs 9)).alloc (.cells #[.int .i64 0, .string ⟨#[]⟩, .slice none 0 0, .int .i64 0, .int .i64 0] 24)) #[⟨.int .i64 1, .int .i64 3, 0⟩, ⟨.int .i64 2, .int .i64 2, 1⟩, ⟨.int .i64 3, .int .i64 1, 2⟩, ⟨.int .i64 4, .int .i64 1, 3⟩, ⟨.int .i64 5, .int .i64 2, 4⟩, ⟨.int .i64 6, .int .i64 2, 5⟩] 6 7 3 (by rfl)
  have in8 := run_put (((w.alloc (.cells #[.int .i64 0, .string ⟨#[]⟩, .slice none 0 0, .int .i64 0, .int .i64 0] 24)).alloc (.cells cs 9)).alloc (.cells #[.int .i64 0, .string ⟨#[]⟩, .slice none 0 0, .int .i64 0, .int .i64 0] 24)) #[⟨.int .i64 1, .int .i64 3, 0⟩, ⟨.int .i64 2, .int .i64 2, 1⟩, ⟨.int .i64 3, .int .i64 1, 2⟩, ⟨.int .i64 4, .int .i64 1, 3⟩, ⟨.int .i64 5, .int .i64 2, 4⟩, ⟨.int .i64 6, .int .i64 2, 5⟩, ⟨.int .i64 7, .int .i64 3, 6⟩] 7 8 1 (by rfl)
  have gt := run_get_none (((w.alloc (.cells #[.int .i64 0, .string ⟨#[]⟩, .slice none 0 0, .int .i64 0, .int .i64 0] 24)).alloc (.cells cs 9)).alloc (.cells #[.int .i64 0, .string ⟨#[]⟩, .slice none 0 0, .int .i64 0, .int .i64 0] 24)) #[⟨.int .i64 1, .int .i64 3, 0⟩, ⟨.int .i64 2, .int .i64 2, 1⟩, ⟨.int .i64 3, .int .i64 1, 2⟩, ⟨.int .i64 4, .int .i64 1, 3⟩, ⟨.int .i64 5, .int .i64 2, 4⟩, ⟨.int .i64 6, .int .i64 2, 5⟩, ⟨.int .i64 7, .int .i64 3, 6⟩, ⟨.int .i64 8, .int .i64 1, 7⟩] 8 0 (by rfl)
  simp only [World.size_alloc, List.push_toArray, List.cons_append, List.nil_append, Nat.reduceAdd] at in1 in2 in3 in4 in5 in6 in7 in8 gt
  clear ix0 ix1 ix2 ix3 ix4 ix5 ix6 ix7 ix8
  go_wp2_with fail
  refine bodyPost_ret (v := .tuple #[.agg #[.int .i64 0, .string ⟨#[]⟩, .slice none 0 0, .int .i64 0, .int .i64 0], .bool false]) (by simp [results, Tryz.results47, go_sem]) rfl ⟨rfl, ?_⟩
  repeat (first | exact Below.refl _ _ | refine Below.drew ?_ | refine Below.alloc ?_ (by simp; try omega) _ | refine Below.setCell ?_ (by simp; try omega) _)

set_option maxRecDepth 100000 in
/-- The line 'build'. -/
theorem step_build (line : ByteArray) (w : World) (hw : WordsAt w) (h0 : 0 < w.heap.size) (hsh : ∀ W : World, Below w.heap.size w W → W.ShapedOpen Tryz.prog) (hs : Splits line [⟨#[98, 117, 105, 108, 100]⟩]) :
    Calls Tryz.prog 47 #[.string line] w fun e w' => e = .returned (.tuple #[.agg #[.int .i64 3, .string ⟨#[]⟩, .slice none 0 0, .int .i64 0, .int .i64 0], .bool true]) ∧ Below w.heap.size w w' := by
  obtain ⟨a0, a1, a2, a3, a4, a5, a6, a7, a8⟩ := hw
  have ix0 : ∀ w : World, (Instr.index 94 (.agg #[.string ⟨#[]⟩, .string ⟨#[112, 117, 116]⟩, .string ⟨#[100, 114, 111, 112]⟩, .string ⟨#[98, 117, 105, 108, 100]⟩, .string ⟨#[112, 117, 98, 108, 105, 115, 104]⟩, .string ⟨#[114, 101, 97, 100]⟩, .string ⟨#[102, 117, 115, 101]⟩, .string ⟨#[99, 114, 97, 115, 104]⟩, .string ⟨#[115, 119, 101, 101, 112]⟩]) (.int .i64 0)).run Tryz.prog w = .ok (.string ⟨#[]⟩) w := fun _ => by kernel_rfl
  have ix1 : ∀ w : World, (Instr.index 94 (.agg #[.string ⟨#[]⟩, .string ⟨#[112, 117, 116]⟩, .string ⟨#[100, 114, 111, 112]⟩, .string ⟨#[98, 117, 105, 108, 100]⟩, .string ⟨#[112, 117, 98, 108, 105, 115, 104]⟩, .string ⟨#[114, 101, 97, 100]⟩, .string ⟨#[102, 117, 115, 101]⟩, .string ⟨#[99, 114, 97, 115, 104]⟩, .string ⟨#[115, 119, 101, 101, 112]⟩]) (.int .i64 1)).run Tryz.prog w = .ok (.string ⟨#[112, 117, 116]⟩) w := fun _ => by kernel_rfl
  have ix2 : ∀ w : World, (Instr.index 94 (.agg #[.string ⟨#[]⟩, .string ⟨#[112, 117, 116]⟩, .string ⟨#[100, 114, 111, 112]⟩, .string ⟨#[98, 117, 105, 108, 100]⟩, .string ⟨#[112, 117, 98, 108, 105, 115, 104]⟩, .string ⟨#[114, 101, 97, 100]⟩, .string ⟨#[102, 117, 115, 101]⟩, .string ⟨#[99, 114, 97, 115, 104]⟩, .string ⟨#[115, 119, 101, 101, 112]⟩]) (.int .i64 2)).run Tryz.prog w = .ok (.string ⟨#[100, 114, 111, 112]⟩) w := fun _ => by kernel_rfl
  have ix3 : ∀ w : World, (Instr.index 94 (.agg #[.string ⟨#[]⟩, .string ⟨#[112, 117, 116]⟩, .string ⟨#[100, 114, 111, 112]⟩, .string ⟨#[98, 117, 105, 108, 100]⟩, .string ⟨#[112, 117, 98, 108, 105, 115, 104]⟩, .string ⟨#[114, 101, 97, 100]⟩, .string ⟨#[102, 117, 115, 101]⟩, .string ⟨#[99, 114, 97, 115, 104]⟩, .string ⟨#[115, 119, 101, 101, 112]⟩]) (.int .i64 3)).run Tryz.prog w = .ok (.string ⟨#[98, 117, 105, 108, 100]⟩) w := fun _ => by kernel_rfl
  have ix4 : ∀ w : World, (Instr.index 94 (.agg #[.string ⟨#[]⟩, .string ⟨#[112, 117, 116]⟩, .string ⟨#[100, 114, 111, 112]⟩, .string ⟨#[98, 117, 105, 108, 100]⟩, .string ⟨#[112, 117, 98, 108, 105, 115, 104]⟩, .string ⟨#[114, 101, 97, 100]⟩, .string ⟨#[102, 117, 115, 101]⟩, .string ⟨#[99, 114, 97, 115, 104]⟩, .string ⟨#[115, 119, 101, 101, 112]⟩]) (.int .i64 4)).run Tryz.prog w = .ok (.string ⟨#[112, 117, 98, 108, 105, 115, 104]⟩) w := fun _ => by kernel_rfl
  have ix5 : ∀ w : World, (Instr.index 94 (.agg #[.string ⟨#[]⟩, .string ⟨#[112, 117, 116]⟩, .string ⟨#[100, 114, 111, 112]⟩, .string ⟨#[98, 117, 105, 108, 100]⟩, .string ⟨#[112, 117, 98, 108, 105, 115, 104]⟩, .string ⟨#[114, 101, 97, 100]⟩, .string ⟨#[102, 117, 115, 101]⟩, .string ⟨#[99, 114, 97, 115, 104]⟩, .string ⟨#[115, 119, 101, 101, 112]⟩]) (.int .i64 5)).run Tryz.prog w = .ok (.string ⟨#[114, 101, 97, 100]⟩) w := fun _ => by kernel_rfl
  have ix6 : ∀ w : World, (Instr.index 94 (.agg #[.string ⟨#[]⟩, .string ⟨#[112, 117, 116]⟩, .string ⟨#[100, 114, 111, 112]⟩, .string ⟨#[98, 117, 105, 108, 100]⟩, .string ⟨#[112, 117, 98, 108, 105, 115, 104]⟩, .string ⟨#[114, 101, 97, 100]⟩, .string ⟨#[102, 117, 115, 101]⟩, .string ⟨#[99, 114, 97, 115, 104]⟩, .string ⟨#[115, 119, 101, 101, 112]⟩]) (.int .i64 6)).run Tryz.prog w = .ok (.string ⟨#[102, 117, 115, 101]⟩) w := fun _ => by kernel_rfl
  have ix7 : ∀ w : World, (Instr.index 94 (.agg #[.string ⟨#[]⟩, .string ⟨#[112, 117, 116]⟩, .string ⟨#[100, 114, 111, 112]⟩, .string ⟨#[98, 117, 105, 108, 100]⟩, .string ⟨#[112, 117, 98, 108, 105, 115, 104]⟩, .string ⟨#[114, 101, 97, 100]⟩, .string ⟨#[102, 117, 115, 101]⟩, .string ⟨#[99, 114, 97, 115, 104]⟩, .string ⟨#[115, 119, 101, 101, 112]⟩]) (.int .i64 7)).run Tryz.prog w = .ok (.string ⟨#[99, 114, 97, 115, 104]⟩) w := fun _ => by kernel_rfl
  have ix8 : ∀ w : World, (Instr.index 94 (.agg #[.string ⟨#[]⟩, .string ⟨#[112, 117, 116]⟩, .string ⟨#[100, 114, 111, 112]⟩, .string ⟨#[98, 117, 105, 108, 100]⟩, .string ⟨#[112, 117, 98, 108, 105, 115, 104]⟩, .string ⟨#[114, 101, 97, 100]⟩, .string ⟨#[102, 117, 115, 101]⟩, .string ⟨#[99, 114, 97, 115, 104]⟩, .string ⟨#[115, 119, 101, 101, 112]⟩]) (.int .i64 8)).run Tryz.prog w = .ok (.string ⟨#[115, 119, 101, 101, 112]⟩) w := fun _ => by kernel_rfl
  have hmm := @run_makeMap Tryz.prog
  obtain ⟨cap, hs⟩ := hs (w.alloc (.cells #[.int .i64 0, .string ⟨#[]⟩, .slice none 0 0, .int .i64 0, .int .i64 0] 24)) (hsh _ ((Below.refl _ _).alloc (Nat.le_refl _) _))
  go_enter Tryz.func47, Tryz.ntmps47
  go_wp2_with fail
  refine hs.mono ?_
  rintro e w1 ⟨rfl, cs, rfl, hc⟩
  have p0 := hc 0 (by simp)
  simp only [List.getElem_cons_zero] at p0
  clear hc hs
  go_wp2_with fail
  clear a0 a1 a2 a3 a4 a5 a6 a7 a8
  refine wp_loop_rounds 10 ?_
  iterate 9 (rw [rounds_succ]; go_wp2_with fail)
  rw [rounds_succ]
  go_upto_region 9 with (fail)
  have in1 := run_put (((w.alloc (.cells #[.int .i64 0, .string ⟨#[]⟩, .slice none 0 0, .int .i64 0, .int .i64 0] 24)).alloc (.cells cs 9)).alloc (.cells #[.int .i64 3, .string ⟨#[]⟩, .slice none 0 0, .int .i64 0, .int .i64 0] 24)) #[] 0 1 3 (by rfl)
  have in2 := run_put (((w.alloc (.cells #[.int .i64 0, .string ⟨#[]⟩, .slice none 0 0, .int .i64 0, .int .i64 0] 24)).alloc (.cells cs 9)).alloc (.cells #[.int .i64 3, .string ⟨#[]⟩, .slice none 0 0, .int .i64 0, .int .i64 0] 24)) #[⟨.int .i64 1, .int .i64 3, 0⟩] 1 2 2 (by rfl)
  have in3 := run_put (((w.alloc (.cells #[.int .i64 0, .string ⟨#[]⟩, .slice none 0 0, .int .i64 0, .int .i64 0] 24)).alloc (.cells cs 9)).alloc (.cells #[.int .i64 3, .string ⟨#[]⟩, .slice none 0 0, .int .i64 0, .int .i64 0] 24)) #[⟨.int .i64 1, .int .i64 3, 0⟩, ⟨.int .i64 2, .int .i64 2, 1⟩] 2 3 1 (by rfl)
  have in4 := run_put (((w.alloc (.cells #[.int .i64 0, .string ⟨#[]⟩, .slice none 0 0, .int .i64 0, .int .i64 0] 24)).alloc (.cells cs 9)).alloc (.cells #[.int .i64 3, .string ⟨#[]⟩, .slice none 0 0, .int .i64 0, .int .i64 0] 24)) #[⟨.int .i64 1, .int .i64 3, 0⟩, ⟨.int .i64 2, .int .i64 2, 1⟩, ⟨.int .i64 3, .int .i64 1, 2⟩] 3 4 1 (by rfl)
  have in5 := run_put (((w.alloc (.cells #[.int .i64 0, .string ⟨#[]⟩, .slice none 0 0, .int .i64 0, .int .i64 0] 24)).alloc (.cells cs 9)).alloc (.cells #[.int .i64 3, .string ⟨#[]⟩, .slice none 0 0, .int .i64 0, .int .i64 0] 24)) #[⟨.int .i64 1, .int .i64 3, 0⟩, ⟨.int .i64 2, .int .i64 2, 1⟩, ⟨.int .i64 3, .int .i64 1, 2⟩, ⟨.int .i64 4, .int .i64 1, 3⟩] 4 5 2 (by rfl)
  have in6 := run_put (((w.alloc (.cells #[.int .i64 0, .string ⟨#[]⟩, .slice none 0 0, .int .i64 0, .int .i64 0] 24)).alloc (.cells cs 9)).alloc (.cells #[.int .i64 3, .string ⟨#[]⟩, .slice none 0 0, .int .i64 0, .int .i64 0] 24)) #[⟨.int .i64 1, .int .i64 3, 0⟩, ⟨.int .i64 2, .int .i64 2, 1⟩, ⟨.int .i64 3, .int .i64 1, 2⟩, ⟨.int .i64 4, .int .i64 1, 3⟩, ⟨.int .i64 5, .int .i64 2, 4⟩] 5 6 2 (by rfl)
  have in7 := run_put (((w.alloc (.cells #[.int .i64 0, .string ⟨#[]⟩, .slice none 0 0, .int .i64 0, .int .i64 0] 24)).alloc (.cells cs 9)).alloc (.cells #[.int .i64 3, .string ⟨#[]⟩, .slice none 0 0, .int .i64 0, .int .i64 0] 24)) #[⟨.int .i64 1, .int .i64 3, 0⟩, ⟨.int .i64 2, .int .i64 2, 1⟩, ⟨.int .i64 3, .int .i64 1, 2⟩, ⟨.int .i64 4, .int .i64 1, 3⟩, ⟨.int .i64 5, .int .i64 2, 4⟩, ⟨.int .i64 6, .int .i64 2, 5⟩] 6 7 3 (by rfl)
  have in8 := run_put (((w.alloc (.cells #[.int .i64 0, .string ⟨#[]⟩, .slice none 0 0, .int .i64 0, .int .i64 0] 24)).alloc (.cells cs 9)).alloc (.cells #[.int .i64 3, .string ⟨#[]⟩, .slice none 0 0, .int .i64 0, .int .i64 0] 24)) #[⟨.int .i64 1, .int .i64 3, 0⟩, ⟨.int .i64 2, .int .i64 2, 1⟩, ⟨.int .i64 3, .int .i64 1, 2⟩, ⟨.int .i64 4, .int .i64 1, 3⟩, ⟨.int .i64 5, .int .i64 2, 4⟩, ⟨.int .i64 6, .int .i64 2, 5⟩, ⟨.int .i64 7, .int .i64 3, 6⟩] 7 8 1 (by rfl)
  have gt := run_get (((w.alloc (.cells #[.int .i64 0, .string ⟨#[]⟩, .slice none 0 0, .int .i64 0, .int .i64 0] 24)).alloc (.cells cs 9)).alloc (.cells #[.int .i64 3, .string ⟨#[]⟩, .slice none 0 0, .int .i64 0, .int .i64 0] 24)) #[⟨.int .i64 1, .int .i64 3, 0⟩, ⟨.int .i64 2, .int .i64 2, 1⟩, ⟨.int .i64 3, .int .i64 1, 2⟩, ⟨.int .i64 4, .int .i64 1, 3⟩, ⟨.int .i64 5, .int .i64 2, 4⟩, ⟨.int .i64 6, .int .i64 2, 5⟩, ⟨.int .i64 7, .int .i64 3, 6⟩, ⟨.int .i64 8, .int .i64 1, 7⟩] 8 3 1 2 (by rfl)
  simp only [World.size_alloc, List.push_toArray, List.cons_append, List.nil_append, Nat.reduceAdd] at in1 in2 in3 in4 in5 in6 in7 in8 gt
  clear ix0 ix1 ix2 ix3 ix4 ix5 ix6 ix7 ix8
  go_wp2_with fail
  refine bodyPost_ret (v := .tuple #[.agg #[.int .i64 3, .string ⟨#[]⟩, .slice none 0 0, .int .i64 0, .int .i64 0], .bool true]) (by simp [results, Tryz.results47, go_sem]) rfl ⟨rfl, ?_⟩
  repeat (first | exact Below.refl _ _ | refine Below.drew ?_ | refine Below.alloc ?_ (by simp; try omega) _ | refine Below.setCell ?_ (by simp; try omega) _)

end Go.Proofs.YtibknkdgdfdkiaaGreatDoor.hubForms
