/-
  hub.step at the shapes of a line that call uri.Decode or number: what these answer comes in as a hypothesis.
-/
import Derived.Test.YtibknkdgdfdkiaaGreatDoorHubStep
import Derived.Lib.ConvBytes
import Derived.Deep.RegionHeld
namespace Go.Proofs.YtibknkdgdfdkiaaGreatDoor.hubForms
open Go.RowKit

theorem bcell {W w1 : World} {B : Nat} (hb : Below B W w1) : (∀ b o, b < B → w1.cell? ⟨b, o, none⟩ = W.cell? ⟨b, o, none⟩) ∧ (∀ b o, b < B → w1.frozen? ⟨b, o, none⟩ = W.frozen? ⟨b, o, none⟩) :=
  ⟨fun b o h => hb.cell (p := ⟨b, o, none⟩) h, fun b o h => hb.frozen (p := ⟨b, o, none⟩) h⟩

theorem ret_step (tm : Array Value) (X : World) (B : Nat) (a0 a1 a2 a3 a4 u0 u1 u2 u3 u4 : Value) (b : Bool) (Q : Ending → World → Prop) (h2 : tm[2]? = some (.pointer (some ⟨B, 0, none⟩))) (h3 : tm[3]? = some (.bool b))
    (c0 : X.cell? ⟨B, 0, none⟩ = some u0) (c1 : X.cell? ⟨B, 1, none⟩ = some u1) (c2 : X.cell? ⟨B, 2, none⟩ = some u2) (c3 : X.cell? ⟨B, 3, none⟩ = some u3) (c4 : X.cell? ⟨B, 4, none⟩ = some u4)
    (hQ : Q (.returned (.tuple #[.agg #[a0, a1, a2, a3, a4], .bool b])) (((((X.setCell ⟨B, 0, none⟩ a0).setCell ⟨B, 1, none⟩ a1).setCell ⟨B, 2, none⟩ a2).setCell ⟨B, 3, none⟩ a3).setCell ⟨B, 4, none⟩ a4)) :
    bodyPost Tryz.prog Tryz.f47 Q Exit.ret { tmps := tm, defers := [] } (((((X.setCell ⟨B, 0, none⟩ a0).setCell ⟨B, 1, none⟩ a1).setCell ⟨B, 2, none⟩ a2).setCell ⟨B, 3, none⟩ a3).setCell ⟨B, 4, none⟩ a4) :=
  bodyPost_ret (v := .tuple #[.agg #[a0, a1, a2, a3, a4], .bool b]) (by simp [results, Tryz.results47, go_sem, h2, h3, c0, c1, c2, c3, c4]) rfl hQ
/-- What number answers, in every memory behind w. -/
def Numbers (w : World) (q : ByteArray) (n : Int) (b : Bool) : Prop := ∀ W : World, Below w.heap.size w W → Calls Tryz.prog 96 #[.string q] W fun e w' => e = .returned (.tuple #[.int .i64 n, .bool b]) ∧ Below W.heap.size W w'
/-- What uri.Decode answers. -/
def Decodes (q d : ByteArray) (n : Int) : Prop := ∀ W : World, Calls Tryz.prog 95 #[.string q] W fun e w' => e = .returned (.tuple #[.string d, .int .i64 n]) ∧ Below W.heap.size W w'
set_option maxHeartbeats 8000000 in
set_option maxRecDepth 100000 in
/-- A line 'fuse q' whose number is none. -/
theorem step_fuse2 (q1 : ByteArray) (v : Int) (line : ByteArray) (w : World) (hw : WordsAt w) (h0 : 0 < w.heap.size) (hsh : ∀ W : World, Below w.heap.size w W → W.ShapedOpen Tryz.prog) (hn : Numbers w q1 v false) (hs : Splits line [⟨#[102, 117, 115, 101]⟩, q1]) :
    Calls Tryz.prog 47 #[.string line] w fun e w' => e = .returned (.tuple #[.agg #[.int .i64 0, .string ⟨#[]⟩, .slice none 0 0, .int .i64 0, .int .i64 0], .bool false]) ∧ Below w.heap.size w w' := by
  obtain ⟨a0, a1, a2, a3, a4, a5, a6, a7, a8⟩ := hw
  have ix0 : ∀ w : World, (Instr.index 94 (.agg #[.string ⟨#[]⟩, .string ⟨#[112, 117, 116]⟩, .string ⟨#[100, 114, 111, 112]⟩, .string ⟨#[98, 117, 105, 108, 100]⟩, .string ⟨#[112, 117, 98, 108, 105, 115, 104]⟩, .string ⟨#[114, 101, 97, 100]⟩, .string ⟨#[102, 117, 115, 101]⟩, .string ⟨#[99, 114, 97, 115, 104]⟩, .string ⟨#[115, 119, 101, 101, 112]⟩]) (.int .i64 0)).run Tryz.prog w = .ok (.string ⟨#[]⟩) w := fun _ => by kernel_rfl
  have ix1 : ∀ w : World, (Instr.index 94 (.agg #[.string ⟨#[]⟩, .string ⟨#[112, 117, 116]⟩, .string ⟨#[100, 114, 111, 112]⟩, .string ⟨#[98, 117, 105, 108, 100]⟩, .string ⟨#[112, 117, 98, 108, 105, 115, 104]⟩, .string ⟨#[114, 101, 97, 100]⟩, .string ⟨#[102, 117, 115, 101]⟩, .string ⟨#[99, 114, 97, 115, 104]⟩, .string ⟨#[115, 119, 101, 101, 112]⟩]) (.int .i64 1)).run Tryz.prog w = .ok (.string ⟨#[112, 117, 116]⟩) w := fun _ => by kernel_rfl
  have ix2 : ∀ w : World, (Instr.index 94 (.agg #[.string ⟨#[]⟩, .string ⟨#[112, 117, 116]⟩, .string ⟨#[100, 114, 111, 112]⟩, .string ⟨#[98, 117, 105, 108, 100]⟩, .string ⟨#[112, 117, 98, 108, 105, 115, 104]⟩, .string ⟨#[114, 101, 97, 100]⟩, .string ⟨#[102, 117, 115, 101]⟩, .string ⟨#[99, 114, 97, 115, 104]⟩, .string ⟨#[115, 119, 101, 101, 112]⟩]) (.int .i64 2)).run Tryz.prog w = .ok (.string ⟨#[100, 114, 111, 112]⟩) w := fun _ => by kernel_rfl
  have ix3 : ∀ w : World, (Instr.index 94 (.agg #[.string ⟨#[]⟩, .string ⟨#[112, 117, 116]⟩, .string ⟨#[100, 114, 111, 112]⟩, .string ⟨#[98, 117, 105, 108, 100]⟩, .string ⟨#[112, 117, 98, 108, 105, 115, 104]⟩, .string ⟨#[114, 101, 97, 100]⟩, .string ⟨#[102, 117, 115, 101]⟩, .string ⟨#[99, 114, 97, 115, 104]⟩, .string ⟨#[115, 119, 101, 101, 112]⟩]) (.int .i64 3)).run Tryz.prog w = .ok (.string ⟨#[98, 117, 105, 108, 100]⟩) w := fun _ => by kernel_rfl
  have ix4 : ∀ w : World, (Instr.index 94 (.agg #[.string ⟨#[]⟩, .string ⟨#[112, 117, 116]⟩, .string ⟨#[100, 114, 111, 112]⟩, .string ⟨#[98, 117, 105, 108, 100]⟩, .string ⟨#[112, 117, 98, 108, 105, 115, 104]⟩, .string ⟨#[114, 101, 97, 100]⟩, .string ⟨#[102, 117, 115, 101]⟩, .string ⟨#[99, 114, 97, 115, 104]⟩, .string ⟨#[115, 119, 101, 101, 112]⟩]) (.int .i64 4)).run Tryz.prog w = .ok (.string ⟨#[112, 117, 98, 108, 105, 115, 104]⟩) w := fun _ => by kernel_rfl
  have ix5 : ∀ w : World, (Instr.index 94 (.agg #[.string ⟨#[]⟩, .string ⟨#[112, 117, 116]⟩, .string ⟨#[100, 114, 111, 112]⟩, .string ⟨#[98, 117, 105, 108, 100]⟩, .string ⟨#[112, 117, 98, 108, 105, 115, 104]⟩, .string ⟨#[114, 101, 97, 100]⟩, .string ⟨#[102, 117, 115, 101]⟩, .string ⟨#[99, 114, 97, 115, 104]⟩, .string ⟨#[115, 119, 101, 101, 112]⟩]) (.int .i64 5)).run Tryz.prog w = .ok (.string ⟨#[114, 101, 97, 100]⟩) w := fun _ => by kernel_rfl
  have ix6 : ∀ w : World, (Instr.index 94 (.agg #[.string ⟨#[]⟩, .string ⟨#[112, 117, 116]⟩, .string ⟨#[100, 114, 111, 112]⟩, .string ⟨#[98, 117, 105, 108, 100]⟩, .string ⟨#[112, 117, 98, 108, 105, 115, 104]⟩, .string ⟨#[114, 101, 97, 100]⟩, .string ⟨#[102, 117, 115, 101]⟩, .string ⟨#[99, 114, 97, 115, 104]⟩, .string ⟨#[115, 119, 101, 101, 112]⟩]) (.int .i64 6)).run Tryz.prog w = .ok (.string ⟨#[102, 117, 115, 101]⟩) w := fun _ => by kernel_rfl
  have ix7 : ∀ w : World, (Instr.index 94 (.agg #[.string ⟨#[]⟩, .string ⟨#[112, 117, 116]⟩, .string ⟨#[100, 114, 111, 112]⟩, .string ⟨#[98, 117, 105, 108, 100]⟩, .string ⟨#[112, 117, 98, 108, 105, 115, 104]⟩, .string ⟨#[114, 101, 97, 100]⟩, .string ⟨#[102, 117, 115, 101]⟩, .string ⟨#[99, 114, 97, 115, 104]⟩, .string ⟨#[115, 119, 101, 101, 112]⟩]) (.int .i64 7)).run Tryz.prog w = .ok (.string ⟨#[99, 114, 97, 115, 104]⟩) w := fun _ => by kernel_rfl
  have ix8 : ∀ w : World, (Instr.index 94 (.agg #[.string ⟨#[]⟩, .string ⟨#[112, 117, 116]⟩, .string ⟨#[100, 114, 111, 112]⟩, .string ⟨#[98, 117, 105, 108, 100]⟩, .string ⟨#[112, 117, 98, 108, 105, 115, 104]⟩, .string ⟨#[114, 101, 97, 100]⟩, .string ⟨#[102, 117, 115, 101]⟩, .string ⟨#[99, 114, 97, 115, 104]⟩, .string ⟨#[115, 119, 101, 101, 112]⟩]) (.int .i64 8)).run Tryz.prog w = .ok (.string ⟨#[115, 119, 101, 101, 112]⟩) w := fun _ => by kernel_rfl
  have hmm := @run_makeMap Tryz.prog
  obtain ⟨cap, hs⟩ := hs (w.alloc (.cells #[.int .i64 0, .string ⟨#[]⟩, .slice none 0 0, .int .i64 0, .int .i64 0] 24)) (hsh _ ((Below.refl _ _).alloc (Nat.le_refl _) _))
  go_enter Tryz.func47, Tryz.ntmps47
  go_wp2_with fail
  refine hs.mono ?_
  rintro e w1 ⟨rfl, cs, rfl, hc⟩
  have p0 := hc 0 (by simp)
  have p1 := hc 1 (by simp)
  simp only [List.getElem_cons_zero, List.getElem_cons_succ] at p0 p1
  clear hc hs
  go_wp2_with fail
  clear a0 a1 a2 a3 a4 a5 a6 a7 a8
  refine wp_loop_rounds 10 ?_
  iterate 9 (rw [rounds_succ]; go_wp2_with fail)
  rw [rounds_succ]
  go_upto_region 9 with (fail)
  have in1 := run_put (((w.alloc (.cells #[.int .i64 0, .string ⟨#[]⟩, .slice none 0 0, .int .i64 0, .int .i64 0] 24)).alloc (.cells cs 9)).alloc (.cells #[.int .i64 6, .string ⟨#[]⟩, .slice none 0 0, .int .i64 0, .int .i64 0] 24)) #[] 0 1 3 (by rfl)
  have in2 := run_put (((w.alloc (.cells #[.int .i64 0, .string ⟨#[]⟩, .slice none 0 0, .int .i64 0, .int .i64 0] 24)).alloc (.cells cs 9)).alloc (.cells #[.int .i64 6, .string ⟨#[]⟩, .slice none 0 0, .int .i64 0, .int .i64 0] 24)) #[⟨.int .i64 1, .int .i64 3, 0⟩] 1 2 2 (by rfl)
  have in3 := run_put (((w.alloc (.cells #[.int .i64 0, .string ⟨#[]⟩, .slice none 0 0, .int .i64 0, .int .i64 0] 24)).alloc (.cells cs 9)).alloc (.cells #[.int .i64 6, .string ⟨#[]⟩, .slice none 0 0, .int .i64 0, .int .i64 0] 24)) #[⟨.int .i64 1, .int .i64 3, 0⟩, ⟨.int .i64 2, .int .i64 2, 1⟩] 2 3 1 (by rfl)
  have in4 := run_put (((w.alloc (.cells #[.int .i64 0, .string ⟨#[]⟩, .slice none 0 0, .int .i64 0, .int .i64 0] 24)).alloc (.cells cs 9)).alloc (.cells #[.int .i64 6, .string ⟨#[]⟩, .slice none 0 0, .int .i64 0, .int .i64 0] 24)) #[⟨.int .i64 1, .int .i64 3, 0⟩, ⟨.int .i64 2, .int .i64 2, 1⟩, ⟨.int .i64 3, .int .i64 1, 2⟩] 3 4 1 (by rfl)
  have in5 := run_put (((w.alloc (.cells #[.int .i64 0, .string ⟨#[]⟩, .slice none 0 0, .int .i64 0, .int .i64 0] 24)).alloc (.cells cs 9)).alloc (.cells #[.int .i64 6, .string ⟨#[]⟩, .slice none 0 0, .int .i64 0, .int .i64 0] 24)) #[⟨.int .i64 1, .int .i64 3, 0⟩, ⟨.int .i64 2, .int .i64 2, 1⟩, ⟨.int .i64 3, .int .i64 1, 2⟩, ⟨.int .i64 4, .int .i64 1, 3⟩] 4 5 2 (by rfl)
  have in6 := run_put (((w.alloc (.cells #[.int .i64 0, .string ⟨#[]⟩, .slice none 0 0, .int .i64 0, .int .i64 0] 24)).alloc (.cells cs 9)).alloc (.cells #[.int .i64 6, .string ⟨#[]⟩, .slice none 0 0, .int .i64 0, .int .i64 0] 24)) #[⟨.int .i64 1, .int .i64 3, 0⟩, ⟨.int .i64 2, .int .i64 2, 1⟩, ⟨.int .i64 3, .int .i64 1, 2⟩, ⟨.int .i64 4, .int .i64 1, 3⟩, ⟨.int .i64 5, .int .i64 2, 4⟩] 5 6 2 (by rfl)
  have in7 := run_put (((w.alloc (.cells #[.int .i64 0, .string ⟨#[]⟩, .slice none 0 0, .int .i64 0, .int .i64 0] 24)).alloc (.cells cs 9)).alloc (.cells #[.int .i64 6, .string ⟨#[]⟩, .slice none 0 0, .int .i64 0, .int .i64 0] 24)) #[⟨.int .i64 1, .int .i64 3, 0⟩, ⟨.int .i64 2, .int .i64 2, 1⟩, ⟨.int .i64 3, .int .i64 1, 2⟩, ⟨.int .i64 4, .int .i64 1, 3⟩, ⟨.int .i64 5, .int .i64 2, 4⟩, ⟨.int .i64 6, .int .i64 2, 5⟩] 6 7 3 (by rfl)
  have in8 := run_put (((w.alloc (.cells #[.int .i64 0, .string ⟨#[]⟩, .slice none 0 0, .int .i64 0, .int .i64 0] 24)).alloc (.cells cs 9)).alloc (.cells #[.int .i64 6, .string ⟨#[]⟩, .slice none 0 0, .int .i64 0, .int .i64 0] 24)) #[⟨.int .i64 1, .int .i64 3, 0⟩, ⟨.int .i64 2, .int .i64 2, 1⟩, ⟨.int .i64 3, .int .i64 1, 2⟩, ⟨.int .i64 4, .int .i64 1, 3⟩, ⟨.int .i64 5, .int .i64 2, 4⟩, ⟨.int .i64 6, .int .i64 2, 5⟩, ⟨.int .i64 7, .int .i64 3, 6⟩] 7 8 1 (by rfl)
  have gt := run_get (((w.alloc (.cells #[.int .i64 0, .string ⟨#[]⟩, .slice none 0 0, .int .i64 0, .int .i64 0] 24)).alloc (.cells cs 9)).alloc (.cells #[.int .i64 6, .string ⟨#[]⟩, .slice none 0 0, .int .i64 0, .int .i64 0] 24)) #[⟨.int .i64 1, .int .i64 3, 0⟩, ⟨.int .i64 2, .int .i64 2, 1⟩, ⟨.int .i64 3, .int .i64 1, 2⟩, ⟨.int .i64 4, .int .i64 1, 3⟩, ⟨.int .i64 5, .int .i64 2, 4⟩, ⟨.int .i64 6, .int .i64 2, 5⟩, ⟨.int .i64 7, .int .i64 3, 6⟩, ⟨.int .i64 8, .int .i64 1, 7⟩] 8 6 2 5 (by rfl)
  simp only [World.size_alloc, List.push_toArray, List.cons_append, List.nil_append, Nat.reduceAdd] at in1 in2 in3 in4 in5 in6 in7 in8 gt
  clear ix0 ix1 ix2 ix3 ix4 ix5 ix6 ix7 ix8
  go_wp2_with fail
  refine (hn _ ?B).mono ?_
  case B => repeat (first | exact Below.refl _ _ | refine Below.drew ?_ | refine Below.alloc ?_ (by simp; try omega) _ | refine Below.setCell ?_ (by simp; try omega) _)
  rintro e w2 ⟨rfl, hb2⟩
  have hB2 : Below w.heap.size w w2 := by
    refine Below.trans ?_ (hb2.mono (by simp; try omega))
    repeat (first | exact Below.refl _ _ | refine Below.drew ?_ | refine Below.alloc ?_ (by simp; try omega) _ | refine Below.setCell ?_ (by simp; try omega) _)
  have hz2 := hb2.size
  obtain ⟨hc2, hf2⟩ := bcell hb2
  simp only [World.size_alloc] at hc2 hf2 hz2
  have r20 : w2.cell? ⟨w.heap.size, 0, none⟩ = some (.int .i64 0) := by rw [hc2 _ _ (by omega)]; simp [go_sem]
  have r21 : w2.cell? ⟨w.heap.size, 1, none⟩ = some (.string ⟨#[]⟩) := by rw [hc2 _ _ (by omega)]; simp [go_sem]
  have r22 : w2.cell? ⟨w.heap.size, 2, none⟩ = some (.slice none 0 0) := by rw [hc2 _ _ (by omega)]; simp [go_sem]
  have r23 : w2.cell? ⟨w.heap.size, 3, none⟩ = some (.int .i64 0) := by rw [hc2 _ _ (by omega)]; simp [go_sem]
  have r24 : w2.cell? ⟨w.heap.size, 4, none⟩ = some (.int .i64 0) := by rw [hc2 _ _ (by omega)]; simp [go_sem]
  have q20 : w2.frozen? ⟨w.heap.size, 0, none⟩ = false := by rw [hf2 _ _ (by omega)]; simp [go_sem]
  have q21 : w2.frozen? ⟨w.heap.size, 1, none⟩ = false := by rw [hf2 _ _ (by omega)]; simp [go_sem]
  have q22 : w2.frozen? ⟨w.heap.size, 2, none⟩ = false := by rw [hf2 _ _ (by omega)]; simp [go_sem]
  have q23 : w2.frozen? ⟨w.heap.size, 3, none⟩ = false := by rw [hf2 _ _ (by omega)]; simp [go_sem]
  have q24 : w2.frozen? ⟨w.heap.size, 4, none⟩ = false := by rw [hf2 _ _ (by omega)]; simp [go_sem]
  have s20 : w2.cell? ⟨w.heap.size + 1 + 1, 0, none⟩ = some (.int .i64 6) := by rw [hc2 _ _ (by omega)]; simp [go_sem]
  have s21 : w2.cell? ⟨w.heap.size + 1 + 1, 1, none⟩ = some (.string ⟨#[]⟩) := by rw [hc2 _ _ (by omega)]; simp [go_sem]
  have s22 : w2.cell? ⟨w.heap.size + 1 + 1, 2, none⟩ = some (.slice none 0 0) := by rw [hc2 _ _ (by omega)]; simp [go_sem]
  have s23 : w2.cell? ⟨w.heap.size + 1 + 1, 3, none⟩ = some (.int .i64 0) := by rw [hc2 _ _ (by omega)]; simp [go_sem]
  have s24 : w2.cell? ⟨w.heap.size + 1 + 1, 4, none⟩ = some (.int .i64 0) := by rw [hc2 _ _ (by omega)]; simp [go_sem]
  have t20 : w2.frozen? ⟨w.heap.size + 1 + 1, 0, none⟩ = false := by rw [hf2 _ _ (by omega)]; simp [go_sem]
  have t21 : w2.frozen? ⟨w.heap.size + 1 + 1, 1, none⟩ = false := by rw [hf2 _ _ (by omega)]; simp [go_sem]
  have t22 : w2.frozen? ⟨w.heap.size + 1 + 1, 2, none⟩ = false := by rw [hf2 _ _ (by omega)]; simp [go_sem]
  have t23 : w2.frozen? ⟨w.heap.size + 1 + 1, 3, none⟩ = false := by rw [hf2 _ _ (by omega)]; simp [go_sem]
  have t24 : w2.frozen? ⟨w.heap.size + 1 + 1, 4, none⟩ = false := by rw [hf2 _ _ (by omega)]; simp [go_sem]
  clear hc2 hf2
  clear hb2
  go_wp2_with fail
  refine ret_step _ _ w.heap.size _ _ _ _ _ _ _ _ _ _ _ _ (by rfl) (by rfl) r20 r21 r22 r23 r24 ⟨rfl, ?_⟩
  repeat (with_reducible refine Below.setCell ?_ (by simp; try omega) _)
  exact hB2

set_option maxHeartbeats 8000000 in
set_option maxRecDepth 100000 in
/-- A line 'crash q r' whose first number is none. -/
theorem step_crash3a (q1 q2 : ByteArray) (v : Int) (line : ByteArray) (w : World) (hw : WordsAt w) (h0 : 0 < w.heap.size) (hsh : ∀ W : World, Below w.heap.size w W → W.ShapedOpen Tryz.prog) (hn : Numbers w q1 v false) (hs : Splits line [⟨#[99, 114, 97, 115, 104]⟩, q1, q2]) :
    Calls Tryz.prog 47 #[.string line] w fun e w' => e = .returned (.tuple #[.agg #[.int .i64 0, .string ⟨#[]⟩, .slice none 0 0, .int .i64 0, .int .i64 0], .bool false]) ∧ Below w.heap.size w w' := by
  obtain ⟨a0, a1, a2, a3, a4, a5, a6, a7, a8⟩ := hw
  have ix0 : ∀ w : World, (Instr.index 94 (.agg #[.string ⟨#[]⟩, .string ⟨#[112, 117, 116]⟩, .string ⟨#[100, 114, 111, 112]⟩, .string ⟨#[98, 117, 105, 108, 100]⟩, .string ⟨#[112, 117, 98, 108, 105, 115, 104]⟩, .string ⟨#[114, 101, 97, 100]⟩, .string ⟨#[102, 117, 115, 101]⟩, .string ⟨#[99, 114, 97, 115, 104]⟩, .string ⟨#[115, 119, 101, 101, 112]⟩]) (.int .i64 0)).run Tryz.prog w = .ok (.string ⟨#[]⟩) w := fun _ => by kernel_rfl
  have ix1 : ∀ w : World, (Instr.index 94 (.agg #[.string ⟨#[]⟩, .string ⟨#[112, 117, 116]⟩, .string ⟨#[100, 114, 111, 112]⟩, .string ⟨#[98, 117, 105, 108, 100]⟩, .string ⟨#[112, 117, 98, 108, 105, 115, 104]⟩, .string ⟨#[114, 101, 97, 100]⟩, .string ⟨#[102, 117, 115, 101]⟩, .string ⟨#[99, 114, 97, 115, 104]⟩, .string ⟨#[115, 119, 101, 101, 112]⟩]) (.int .i64 1)).run Tryz.prog w = .ok (.string ⟨#[112, 117, 116]⟩) w := fun _ => by kernel_rfl
  have ix2 : ∀ w : World, (Instr.index 94 (.agg #[.string ⟨#[]⟩, .string ⟨#[112, 117, 116]⟩, .string ⟨#[100, 114, 111, 112]⟩, .string ⟨#[98, 117, 105, 108, 100]⟩, .string ⟨#[112, 117, 98, 108, 105, 115, 104]⟩, .string ⟨#[114, 101, 97, 100]⟩, .string ⟨#[102, 117, 115, 101]⟩, .string ⟨#[99, 114, 97, 115, 104]⟩, .string ⟨#[115, 119, 101, 101, 112]⟩]) (.int .i64 2)).run Tryz.prog w = .ok (.string ⟨#[100, 114, 111, 112]⟩) w := fun _ => by kernel_rfl
  have ix3 : ∀ w : World, (Instr.index 94 (.agg #[.string ⟨#[]⟩, .string ⟨#[112, 117, 116]⟩, .string ⟨#[100, 114, 111, 112]⟩, .string ⟨#[98, 117, 105, 108, 100]⟩, .string ⟨#[112, 117, 98, 108, 105, 115, 104]⟩, .string ⟨#[114, 101, 97, 100]⟩, .string ⟨#[102, 117, 115, 101]⟩, .string ⟨#[99, 114, 97, 115, 104]⟩, .string ⟨#[115, 119, 101, 101, 112]⟩]) (.int .i64 3)).run Tryz.prog w = .ok (.string ⟨#[98, 117, 105, 108, 100]⟩) w := fun _ => by kernel_rfl
  have ix4 : ∀ w : World, (Instr.index 94 (.agg #[.string ⟨#[]⟩, .string ⟨#[112, 117, 116]⟩, .string ⟨#[100, 114, 111, 112]⟩, .string ⟨#[98, 117, 105, 108, 100]⟩, .string ⟨#[112, 117, 98, 108, 105, 115, 104]⟩, .string ⟨#[114, 101, 97, 100]⟩, .string ⟨#[102, 117, 115, 101]⟩, .string ⟨#[99, 114, 97, 115, 104]⟩, .string ⟨#[115, 119, 101, 101, 112]⟩]) (.int .i64 4)).run Tryz.prog w = .ok (.string ⟨#[112, 117, 98, 108, 105, 115, 104]⟩) w := fun _ => by kernel_rfl
  have ix5 : ∀ w : World, (Instr.index 94 (.agg #[.string ⟨#[]⟩, .string ⟨#[112, 117, 116]⟩, .string ⟨#[100, 114, 111, 112]⟩, .string ⟨#[98, 117, 105, 108, 100]⟩, .string ⟨#[112, 117, 98, 108, 105, 115, 104]⟩, .string ⟨#[114, 101, 97, 100]⟩, .string ⟨#[102, 117, 115, 101]⟩, .string ⟨#[99, 114, 97, 115, 104]⟩, .string ⟨#[115, 119, 101, 101, 112]⟩]) (.int .i64 5)).run Tryz.prog w = .ok (.string ⟨#[114, 101, 97, 100]⟩) w := fun _ => by kernel_rfl
  have ix6 : ∀ w : World, (Instr.index 94 (.agg #[.string ⟨#[]⟩, .string ⟨#[112, 117, 116]⟩, .string ⟨#[100, 114, 111, 112]⟩, .string ⟨#[98, 117, 105, 108, 100]⟩, .string ⟨#[112, 117, 98, 108, 105, 115, 104]⟩, .string ⟨#[114, 101, 97, 100]⟩, .string ⟨#[102, 117, 115, 101]⟩, .string ⟨#[99, 114, 97, 115, 104]⟩, .string ⟨#[115, 119, 101, 101, 112]⟩]) (.int .i64 6)).run Tryz.prog w = .ok (.string ⟨#[102, 117, 115, 101]⟩) w := fun _ => by kernel_rfl
  have ix7 : ∀ w : World, (Instr.index 94 (.agg #[.string ⟨#[]⟩, .string ⟨#[112, 117, 116]⟩, .string ⟨#[100, 114, 111, 112]⟩, .string ⟨#[98, 117, 105, 108, 100]⟩, .string ⟨#[112, 117, 98, 108, 105, 115, 104]⟩, .string ⟨#[114, 101, 97, 100]⟩, .string ⟨#[102, 117, 115, 101]⟩, .string ⟨#[99, 114, 97, 115, 104]⟩, .string ⟨#[115, 119, 101, 101, 112]⟩]) (.int .i64 7)).run Tryz.prog w = .ok (.string ⟨#[99, 114, 97, 115, 104]⟩) w := fun _ => by kernel_rfl
  have ix8 : ∀ w : World, (Instr.index 94 (.agg #[.string ⟨#[]⟩, .string ⟨#[112, 117, 116]⟩, .string ⟨#[100, 114, 111, 112]⟩, .string ⟨#[98, 117, 105, 108, 100]⟩, .string ⟨#[112, 117, 98, 108, 105, 115, 104]⟩, .string ⟨#[114, 101, 97, 100]⟩, .string ⟨#[102, 117, 115, 101]⟩, .string ⟨#[99, 114, 97, 115, 104]⟩, .string ⟨#[115, 119, 101, 101, 112]⟩]) (.int .i64 8)).run Tryz.prog w = .ok (.string ⟨#[115, 119, 101, 101, 112]⟩) w := fun _ => by kernel_rfl
  have hmm := @run_makeMap Tryz.prog
  obtain ⟨cap, hs⟩ := hs (w.alloc (.cells #[.int .i64 0, .string ⟨#[]⟩, .slice none 0 0, .int .i64 0, .int .i64 0] 24)) (hsh _ ((Below.refl _ _).alloc (Nat.le_refl _) _))
  go_enter Tryz.func47, Tryz.ntmps47
  go_wp2_with fail
  refine hs.mono ?_
  rintro e w1 ⟨rfl, cs, rfl, hc⟩
  have p0 := hc 0 (by simp)
  have p1 := hc 1 (by simp)
  have p2 := hc 2 (by simp)
  simp only [List.getElem_cons_zero, List.getElem_cons_succ] at p0 p1 p2
  clear hc hs
  go_wp2_with fail
  clear a0 a1 a2 a3 a4 a5 a6 a7 a8
  refine wp_loop_rounds 10 ?_
  iterate 9 (rw [rounds_succ]; go_wp2_with fail)
  rw [rounds_succ]
  go_upto_region 9 with (fail)
  have in1 := run_put (((w.alloc (.cells #[.int .i64 0, .string ⟨#[]⟩, .slice none 0 0, .int .i64 0, .int .i64 0] 24)).alloc (.cells cs 9)).alloc (.cells #[.int .i64 7, .string ⟨#[]⟩, .slice none 0 0, .int .i64 0, .int .i64 0] 24)) #[] 0 1 3 (by rfl)
  have in2 := run_put (((w.alloc (.cells #[.int .i64 0, .string ⟨#[]⟩, .slice none 0 0, .int .i64 0, .int .i64 0] 24)).alloc (.cells cs 9)).alloc (.cells #[.int .i64 7, .string ⟨#[]⟩, .slice none 0 0, .int .i64 0, .int .i64 0] 24)) #[⟨.int .i64 1, .int .i64 3, 0⟩] 1 2 2 (by rfl)
  have in3 := run_put (((w.alloc (.cells #[.int .i64 0, .string ⟨#[]⟩, .slice none 0 0, .int .i64 0, .int .i64 0] 24)).alloc (.cells cs 9)).alloc (.cells #[.int .i64 7, .string ⟨#[]⟩, .slice none 0 0, .int .i64 0, .int .i64 0] 24)) #[⟨.int .i64 1, .int .i64 3, 0⟩, ⟨.int .i64 2, .int .i64 2, 1⟩] 2 3 1 (by rfl)
  have in4 := run_put (((w.alloc (.cells #[.int .i64 0, .string ⟨#[]⟩, .slice none 0 0, .int .i64 0, .int .i64 0] 24)).alloc (.cells cs 9)).alloc (.cells #[.int .i64 7, .string ⟨#[]⟩, .slice none 0 0, .int .i64 0, .int .i64 0] 24)) #[⟨.int .i64 1, .int .i64 3, 0⟩, ⟨.int .i64 2, .int .i64 2, 1⟩, ⟨.int .i64 3, .int .i64 1, 2⟩] 3 4 1 (by rfl)
  have in5 := run_put (((w.alloc (.cells #[.int .i64 0, .string ⟨#[]⟩, .slice none 0 0, .int .i64 0, .int .i64 0] 24)).alloc (.cells cs 9)).alloc (.cells #[.int .i64 7, .string ⟨#[]⟩, .slice none 0 0, .int .i64 0, .int .i64 0] 24)) #[⟨.int .i64 1, .int .i64 3, 0⟩, ⟨.int .i64 2, .int .i64 2, 1⟩, ⟨.int .i64 3, .int .i64 1, 2⟩, ⟨.int .i64 4, .int .i64 1, 3⟩] 4 5 2 (by rfl)
  have in6 := run_put (((w.alloc (.cells #[.int .i64 0, .string ⟨#[]⟩, .slice none 0 0, .int .i64 0, .int .i64 0] 24)).alloc (.cells cs 9)).alloc (.cells #[.int .i64 7, .string ⟨#[]⟩, .slice none 0 0, .int .i64 0, .int .i64 0] 24)) #[⟨.int .i64 1, .int .i64 3, 0⟩, ⟨.int .i64 2, .int .i64 2, 1⟩, ⟨.int .i64 3, .int .i64 1, 2⟩, ⟨.int .i64 4, .int .i64 1, 3⟩, ⟨.int .i64 5, .int .i64 2, 4⟩] 5 6 2 (by rfl)
  have in7 := run_put (((w.alloc (.cells #[.int .i64 0, .string ⟨#[]⟩, .slice none 0 0, .int .i64 0, .int .i64 0] 24)).alloc (.cells cs 9)).alloc (.cells #[.int .i64 7, .string ⟨#[]⟩, .slice none 0 0, .int .i64 0, .int .i64 0] 24)) #[⟨.int .i64 1, .int .i64 3, 0⟩, ⟨.int .i64 2, .int .i64 2, 1⟩, ⟨.int .i64 3, .int .i64 1, 2⟩, ⟨.int .i64 4, .int .i64 1, 3⟩, ⟨.int .i64 5, .int .i64 2, 4⟩, ⟨.int .i64 6, .int .i64 2, 5⟩] 6 7 3 (by rfl)
  have in8 := run_put (((w.alloc (.cells #[.int .i64 0, .string ⟨#[]⟩, .slice none 0 0, .int .i64 0, .int .i64 0] 24)).alloc (.cells cs 9)).alloc (.cells #[.int .i64 7, .string ⟨#[]⟩, .slice none 0 0, .int .i64 0, .int .i64 0] 24)) #[⟨.int .i64 1, .int .i64 3, 0⟩, ⟨.int .i64 2, .int .i64 2, 1⟩, ⟨.int .i64 3, .int .i64 1, 2⟩, ⟨.int .i64 4, .int .i64 1, 3⟩, ⟨.int .i64 5, .int .i64 2, 4⟩, ⟨.int .i64 6, .int .i64 2, 5⟩, ⟨.int .i64 7, .int .i64 3, 6⟩] 7 8 1 (by rfl)
  have gt := run_get (((w.alloc (.cells #[.int .i64 0, .string ⟨#[]⟩, .slice none 0 0, .int .i64 0, .int .i64 0] 24)).alloc (.cells cs 9)).alloc (.cells #[.int .i64 7, .string ⟨#[]⟩, .slice none 0 0, .int .i64 0, .int .i64 0] 24)) #[⟨.int .i64 1, .int .i64 3, 0⟩, ⟨.int .i64 2, .int .i64 2, 1⟩, ⟨.int .i64 3, .int .i64 1, 2⟩, ⟨.int .i64 4, .int .i64 1, 3⟩, ⟨.int .i64 5, .int .i64 2, 4⟩, ⟨.int .i64 6, .int .i64 2, 5⟩, ⟨.int .i64 7, .int .i64 3, 6⟩, ⟨.int .i64 8, .int .i64 1, 7⟩] 8 7 3 6 (by rfl)
  simp only [World.size_alloc, List.push_toArray, List.cons_append, List.nil_append, Nat.reduceAdd] at in1 in2 in3 in4 in5 in6 in7 in8 gt
  clear ix0 ix1 ix2 ix3 ix4 ix5 ix6 ix7 ix8
  go_wp2_with fail
  refine (hn _ ?B).mono ?_
  case B => repeat (first | exact Below.refl _ _ | refine Below.drew ?_ | refine Below.alloc ?_ (by simp; try omega) _ | refine Below.setCell ?_ (by simp; try omega) _)
  rintro e w2 ⟨rfl, hb2⟩
  have hB2 : Below w.heap.size w w2 := by
    refine Below.trans ?_ (hb2.mono (by simp; try omega))
    repeat (first | exact Below.refl _ _ | refine Below.drew ?_ | refine Below.alloc ?_ (by simp; try omega) _ | refine Below.setCell ?_ (by simp; try omega) _)
  have hz2 := hb2.size
  obtain ⟨hc2, hf2⟩ := bcell hb2
  simp only [World.size_alloc] at hc2 hf2 hz2
  have r20 : w2.cell? ⟨w.heap.size, 0, none⟩ = some (.int .i64 0) := by rw [hc2 _ _ (by omega)]; simp [go_sem]
  have r21 : w2.cell? ⟨w.heap.size, 1, none⟩ = some (.string ⟨#[]⟩) := by rw [hc2 _ _ (by omega)]; simp [go_sem]
  have r22 : w2.cell? ⟨w.heap.size, 2, none⟩ = some (.slice none 0 0) := by rw [hc2 _ _ (by omega)]; simp [go_sem]
  have r23 : w2.cell? ⟨w.heap.size, 3, none⟩ = some (.int .i64 0) := by rw [hc2 _ _ (by omega)]; simp [go_sem]
  have r24 : w2.cell? ⟨w.heap.size, 4, none⟩ = some (.int .i64 0) := by rw [hc2 _ _ (by omega)]; simp [go_sem]
  have q20 : w2.frozen? ⟨w.heap.size, 0, none⟩ = false := by rw [hf2 _ _ (by omega)]; simp [go_sem]
  have q21 : w2.frozen? ⟨w.heap.size, 1, none⟩ = false := by rw [hf2 _ _ (by omega)]; simp [go_sem]
  have q22 : w2.frozen? ⟨w.heap.size, 2, none⟩ = false := by rw [hf2 _ _ (by omega)]; simp [go_sem]
  have q23 : w2.frozen? ⟨w.heap.size, 3, none⟩ = false := by rw [hf2 _ _ (by omega)]; simp [go_sem]
  have q24 : w2.frozen? ⟨w.heap.size, 4, none⟩ = false := by rw [hf2 _ _ (by omega)]; simp [go_sem]
  have s20 : w2.cell? ⟨w.heap.size + 1 + 1, 0, none⟩ = some (.int .i64 7) := by rw [hc2 _ _ (by omega)]; simp [go_sem]
  have s21 : w2.cell? ⟨w.heap.size + 1 + 1, 1, none⟩ = some (.string ⟨#[]⟩) := by rw [hc2 _ _ (by omega)]; simp [go_sem]
  have s22 : w2.cell? ⟨w.heap.size + 1 + 1, 2, none⟩ = some (.slice none 0 0) := by rw [hc2 _ _ (by omega)]; simp [go_sem]
  have s23 : w2.cell? ⟨w.heap.size + 1 + 1, 3, none⟩ = some (.int .i64 0) := by rw [hc2 _ _ (by omega)]; simp [go_sem]
  have s24 : w2.cell? ⟨w.heap.size + 1 + 1, 4, none⟩ = some (.int .i64 0) := by rw [hc2 _ _ (by omega)]; simp [go_sem]
  have t20 : w2.frozen? ⟨w.heap.size + 1 + 1, 0, none⟩ = false := by rw [hf2 _ _ (by omega)]; simp [go_sem]
  have t21 : w2.frozen? ⟨w.heap.size + 1 + 1, 1, none⟩ = false := by rw [hf2 _ _ (by omega)]; simp [go_sem]
  have t22 : w2.frozen? ⟨w.heap.size + 1 + 1, 2, none⟩ = false := by rw [hf2 _ _ (by omega)]; simp [go_sem]
  have t23 : w2.frozen? ⟨w.heap.size + 1 + 1, 3, none⟩ = false := by rw [hf2 _ _ (by omega)]; simp [go_sem]
  have t24 : w2.frozen? ⟨w.heap.size + 1 + 1, 4, none⟩ = false := by rw [hf2 _ _ (by omega)]; simp [go_sem]
  clear hc2 hf2
  clear hb2
  go_wp2_with fail
  refine ret_step _ _ w.heap.size _ _ _ _ _ _ _ _ _ _ _ _ (by rfl) (by rfl) r20 r21 r22 r23 r24 ⟨rfl, ?_⟩
  repeat (with_reducible refine Below.setCell ?_ (by simp; try omega) _)
  exact hB2

set_option maxHeartbeats 8000000 in
set_option maxRecDepth 100000 in
/-- A line 'crash q r' whose second number is none. -/
theorem step_crash3b (q1 q2 : ByteArray) (v u : Int) (line : ByteArray) (w : World) (hw : WordsAt w) (h0 : 0 < w.heap.size) (hsh : ∀ W : World, Below w.heap.size w W → W.ShapedOpen Tryz.prog) (hn : Numbers w q1 v true) (hm : Numbers w q2 u false) (hs : Splits line [⟨#[99, 114, 97, 115, 104]⟩, q1, q2]) :
    Calls Tryz.prog 47 #[.string line] w fun e w' => e = .returned (.tuple #[.agg #[.int .i64 0, .string ⟨#[]⟩, .slice none 0 0, .int .i64 0, .int .i64 0], .bool false]) ∧ Below w.heap.size w w' := by
  obtain ⟨a0, a1, a2, a3, a4, a5, a6, a7, a8⟩ := hw
  have ix0 : ∀ w : World, (Instr.index 94 (.agg #[.string ⟨#[]⟩, .string ⟨#[112, 117, 116]⟩, .string ⟨#[100, 114, 111, 112]⟩, .string ⟨#[98, 117, 105, 108, 100]⟩, .string ⟨#[112, 117, 98, 108, 105, 115, 104]⟩, .string ⟨#[114, 101, 97, 100]⟩, .string ⟨#[102, 117, 115, 101]⟩, .string ⟨#[99, 114, 97, 115, 104]⟩, .string ⟨#[115, 119, 101, 101, 112]⟩]) (.int .i64 0)).run Tryz.prog w = .ok (.string ⟨#[]⟩) w := fun _ => by kernel_rfl
  have ix1 : ∀ w : World, (Instr.index 94 (.agg #[.string ⟨#[]⟩, .string ⟨#[112, 117, 116]⟩, .string ⟨#[100, 114, 111, 112]⟩, .string ⟨#[98, 117, 105, 108, 100]⟩, .string ⟨#[112, 117, 98, 108, 105, 115, 104]⟩, .string ⟨#[114, 101, 97, 100]⟩, .string ⟨#[102, 117, 115, 101]⟩, .string ⟨#[99, 114, 97, 115, 104]⟩, .string ⟨#[115, 119, 101, 101, 112]⟩]) (.int .i64 1)).run Tryz.prog w = .ok (.string ⟨#[112, 117, 116]⟩) w := fun _ => by kernel_rfl
  have ix2 : ∀ w : World, (Instr.index 94 (.agg #[.string ⟨#[]⟩, .string ⟨#[112, 117, 116]⟩, .string ⟨#[100, 114, 111, 112]⟩, .string ⟨#[98, 117, 105, 108, 100]⟩, .string ⟨#[112, 117, 98, 108, 105, 115, 104]⟩, .string ⟨#[114, 101, 97, 100]⟩, .string ⟨#[102, 117, 115, 101]⟩, .string ⟨#[99, 114, 97, 115, 104]⟩, .string ⟨#[115, 119, 101, 101, 112]⟩]) (.int .i64 2)).run Tryz.prog w = .ok (.string ⟨#[100, 114, 111, 112]⟩) w := fun _ => by kernel_rfl
  have ix3 : ∀ w : World, (Instr.index 94 (.agg #[.string ⟨#[]⟩, .string ⟨#[112, 117, 116]⟩, .string ⟨#[100, 114, 111, 112]⟩, .string ⟨#[98, 117, 105, 108, 100]⟩, .string ⟨#[112, 117, 98, 108, 105, 115, 104]⟩, .string ⟨#[114, 101, 97, 100]⟩, .string ⟨#[102, 117, 115, 101]⟩, .string ⟨#[99, 114, 97, 115, 104]⟩, .string ⟨#[115, 119, 101, 101, 112]⟩]) (.int .i64 3)).run Tryz.prog w = .ok (.string ⟨#[98, 117, 105, 108, 100]⟩) w := fun _ => by kernel_rfl
  have ix4 : ∀ w : World, (Instr.index 94 (.agg #[.string ⟨#[]⟩, .string ⟨#[112, 117, 116]⟩, .string ⟨#[100, 114, 111, 112]⟩, .string ⟨#[98, 117, 105, 108, 100]⟩, .string ⟨#[112, 117, 98, 108, 105, 115, 104]⟩, .string ⟨#[114, 101, 97, 100]⟩, .string ⟨#[102, 117, 115, 101]⟩, .string ⟨#[99, 114, 97, 115, 104]⟩, .string ⟨#[115, 119, 101, 101, 112]⟩]) (.int .i64 4)).run Tryz.prog w = .ok (.string ⟨#[112, 117, 98, 108, 105, 115, 104]⟩) w := fun _ => by kernel_rfl
  have ix5 : ∀ w : World, (Instr.index 94 (.agg #[.string ⟨#[]⟩, .string ⟨#[112, 117, 116]⟩, .string ⟨#[100, 114, 111, 112]⟩, .string ⟨#[98, 117, 105, 108, 100]⟩, .string ⟨#[112, 117, 98, 108, 105, 115, 104]⟩, .string ⟨#[114, 101, 97, 100]⟩, .string ⟨#[102, 117, 115, 101]⟩, .string ⟨#[99, 114, 97, 115, 104]⟩, .string ⟨#[115, 119, 101, 101, 112]⟩]) (.int .i64 5)).run Tryz.prog w = .ok (.string ⟨#[114, 101, 97, 100]⟩) w := fun _ => by kernel_rfl
  have ix6 : ∀ w : World, (Instr.index 94 (.agg #[.string ⟨#[]⟩, .string ⟨#[112, 117, 116]⟩, .string ⟨#[100, 114, 111, 112]⟩, .string ⟨#[98, 117, 105, 108, 100]⟩, .string ⟨#[112, 117, 98, 108, 105, 115, 104]⟩, .string ⟨#[114, 101, 97, 100]⟩, .string ⟨#[102, 117, 115, 101]⟩, .string ⟨#[99, 114, 97, 115, 104]⟩, .string ⟨#[115, 119, 101, 101, 112]⟩]) (.int .i64 6)).run Tryz.prog w = .ok (.string ⟨#[102, 117, 115, 101]⟩) w := fun _ => by kernel_rfl
  have ix7 : ∀ w : World, (Instr.index 94 (.agg #[.string ⟨#[]⟩, .string ⟨#[112, 117, 116]⟩, .string ⟨#[100, 114, 111, 112]⟩, .string ⟨#[98, 117, 105, 108, 100]⟩, .string ⟨#[112, 117, 98, 108, 105, 115, 104]⟩, .string ⟨#[114, 101, 97, 100]⟩, .string ⟨#[102, 117, 115, 101]⟩, .string ⟨#[99, 114, 97, 115, 104]⟩, .string ⟨#[115, 119, 101, 101, 112]⟩]) (.int .i64 7)).run Tryz.prog w = .ok (.string ⟨#[99, 114, 97, 115, 104]⟩) w := fun _ => by kernel_rfl
  have ix8 : ∀ w : World, (Instr.index 94 (.agg #[.string ⟨#[]⟩, .string ⟨#[112, 117, 116]⟩, .string ⟨#[100, 114, 111, 112]⟩, .string ⟨#[98, 117, 105, 108, 100]⟩, .string ⟨#[112, 117, 98, 108, 105, 115, 104]⟩, .string ⟨#[114, 101, 97, 100]⟩, .string ⟨#[102, 117, 115, 101]⟩, .string ⟨#[99, 114, 97, 115, 104]⟩, .string ⟨#[115, 119, 101, 101, 112]⟩]) (.int .i64 8)).run Tryz.prog w = .ok (.string ⟨#[115, 119, 101, 101, 112]⟩) w := fun _ => by kernel_rfl
  have hmm := @run_makeMap Tryz.prog
  obtain ⟨cap, hs⟩ := hs (w.alloc (.cells #[.int .i64 0, .string ⟨#[]⟩, .slice none 0 0, .int .i64 0, .int .i64 0] 24)) (hsh _ ((Below.refl _ _).alloc (Nat.le_refl _) _))
  go_enter Tryz.func47, Tryz.ntmps47
  go_wp2_with fail
  refine hs.mono ?_
  rintro e w1 ⟨rfl, cs, rfl, hc⟩
  have p0 := hc 0 (by simp)
  have p1 := hc 1 (by simp)
  have p2 := hc 2 (by simp)
  simp only [List.getElem_cons_zero, List.getElem_cons_succ] at p0 p1 p2
  clear hc hs
  go_wp2_with fail
  clear a0 a1 a2 a3 a4 a5 a6 a7 a8
  refine wp_loop_rounds 10 ?_
  iterate 9 (rw [rounds_succ]; go_wp2_with fail)
  rw [rounds_succ]
  go_upto_region 9 with (fail)
  have in1 := run_put (((w.alloc (.cells #[.int .i64 0, .string ⟨#[]⟩, .slice none 0 0, .int .i64 0, .int .i64 0] 24)).alloc (.cells cs 9)).alloc (.cells #[.int .i64 7, .string ⟨#[]⟩, .slice none 0 0, .int .i64 0, .int .i64 0] 24)) #[] 0 1 3 (by rfl)
  have in2 := run_put (((w.alloc (.cells #[.int .i64 0, .string ⟨#[]⟩, .slice none 0 0, .int .i64 0, .int .i64 0] 24)).alloc (.cells cs 9)).alloc (.cells #[.int .i64 7, .string ⟨#[]⟩, .slice none 0 0, .int .i64 0, .int .i64 0] 24)) #[⟨.int .i64 1, .int .i64 3, 0⟩] 1 2 2 (by rfl)
  have in3 := run_put (((w.alloc (.cells #[.int .i64 0, .string ⟨#[]⟩, .slice none 0 0, .int .i64 0, .int .i64 0] 24)).alloc (.cells cs 9)).alloc (.cells #[.int .i64 7, .string ⟨#[]⟩, .slice none 0 0, .int .i64 0, .int .i64 0] 24)) #[⟨.int .i64 1, .int .i64 3, 0⟩, ⟨.int .i64 2, .int .i64 2, 1⟩] 2 3 1 (by rfl)
  have in4 := run_put (((w.alloc (.cells #[.int .i64 0, .string ⟨#[]⟩, .slice none 0 0, .int .i64 0, .int .i64 0] 24)).alloc (.cells cs 9)).alloc (.cells #[.int .i64 7, .string ⟨#[]⟩, .slice none 0 0, .int .i64 0, .int .i64 0] 24)) #[⟨.int .i64 1, .int .i64 3, 0⟩, ⟨.int .i64 2, .int .i64 2, 1⟩, ⟨.int .i64 3, .int .i64 1, 2⟩] 3 4 1 (by rfl)
  have in5 := run_put (((w.alloc (.cells #[.int .i64 0, .string ⟨#[]⟩, .slice none 0 0, .int .i64 0, .int .i64 0] 24)).alloc (.cells cs 9)).alloc (.cells #[.int .i64 7, .string ⟨#[]⟩, .slice none 0 0, .int .i64 0, .int .i64 0] 24)) #[⟨.int .i64 1, .int .i64 3, 0⟩, ⟨.int .i64 2, .int .i64 2, 1⟩, ⟨.int .i64 3, .int .i64 1, 2⟩, ⟨.int .i64 4, .int .i64 1, 3⟩] 4 5 2 (by rfl)
  have in6 := run_put (((w.alloc (.cells #[.int .i64 0, .string ⟨#[]⟩, .slice none 0 0, .int .i64 0, .int .i64 0] 24)).alloc (.cells cs 9)).alloc (.cells #[.int .i64 7, .string ⟨#[]⟩, .slice none 0 0, .int .i64 0, .int .i64 0] 24)) #[⟨.int .i64 1, .int .i64 3, 0⟩, ⟨.int .i64 2, .int .i64 2, 1⟩, ⟨.int .i64 3, .int .i64 1, 2⟩, ⟨.int .i64 4, .int .i64 1, 3⟩, ⟨.int .i64 5, .int .i64 2, 4⟩] 5 6 2 (by rfl)
  have in7 := run_put (((w.alloc (.cells #[.int .i64 0, .string ⟨#[]⟩, .slice none 0 0, .int .i64 0, .int .i64 0] 24)).alloc (.cells cs 9)).alloc (.cells #[.int .i64 7, .string ⟨#[]⟩, .slice none 0 0, .int .i64 0, .int .i64 0] 24)) #[⟨.int .i64 1, .int .i64 3, 0⟩, ⟨.int .i64 2, .int .i64 2, 1⟩, ⟨.int .i64 3, .int .i64 1, 2⟩, ⟨.int .i64 4, .int .i64 1, 3⟩, ⟨.int .i64 5, .int .i64 2, 4⟩, ⟨.int .i64 6, .int .i64 2, 5⟩] 6 7 3 (by rfl)
  have in8 := run_put (((w.alloc (.cells #[.int .i64 0, .string ⟨#[]⟩, .slice none 0 0, .int .i64 0, .int .i64 0] 24)).alloc (.cells cs 9)).alloc (.cells #[.int .i64 7, .string ⟨#[]⟩, .slice none 0 0, .int .i64 0, .int .i64 0] 24)) #[⟨.int .i64 1, .int .i64 3, 0⟩, ⟨.int .i64 2, .int .i64 2, 1⟩, ⟨.int .i64 3, .int .i64 1, 2⟩, ⟨.int .i64 4, .int .i64 1, 3⟩, ⟨.int .i64 5, .int .i64 2, 4⟩, ⟨.int .i64 6, .int .i64 2, 5⟩, ⟨.int .i64 7, .int .i64 3, 6⟩] 7 8 1 (by rfl)
  have gt := run_get (((w.alloc (.cells #[.int .i64 0, .string ⟨#[]⟩, .slice none 0 0, .int .i64 0, .int .i64 0] 24)).alloc (.cells cs 9)).alloc (.cells #[.int .i64 7, .string ⟨#[]⟩, .slice none 0 0, .int .i64 0, .int .i64 0] 24)) #[⟨.int .i64 1, .int .i64 3, 0⟩, ⟨.int .i64 2, .int .i64 2, 1⟩, ⟨.int .i64 3, .int .i64 1, 2⟩, ⟨.int .i64 4, .int .i64 1, 3⟩, ⟨.int .i64 5, .int .i64 2, 4⟩, ⟨.int .i64 6, .int .i64 2, 5⟩, ⟨.int .i64 7, .int .i64 3, 6⟩, ⟨.int .i64 8, .int .i64 1, 7⟩] 8 7 3 6 (by rfl)
  simp only [World.size_alloc, List.push_toArray, List.cons_append, List.nil_append, Nat.reduceAdd] at in1 in2 in3 in4 in5 in6 in7 in8 gt
  clear ix0 ix1 ix2 ix3 ix4 ix5 ix6 ix7 ix8
  go_wp2_with fail
  refine (hn _ ?B).mono ?_
  case B => repeat (first | exact Below.refl _ _ | refine Below.drew ?_ | refine Below.alloc ?_ (by simp; try omega) _ | refine Below.setCell ?_ (by simp; try omega) _)
  rintro e w2 ⟨rfl, hb2⟩
  have hB2 : Below w.heap.size w w2 := by
    refine Below.trans ?_ (hb2.mono (by simp; try omega))
    repeat (first | exact Below.refl _ _ | refine Below.drew ?_ | refine Below.alloc ?_ (by simp; try omega) _ | refine Below.setCell ?_ (by simp; try omega) _)
  have hz2 := hb2.size
  obtain ⟨hc2, hf2⟩ := bcell hb2
  simp only [World.size_alloc] at hc2 hf2 hz2
  have r20 : w2.cell? ⟨w.heap.size, 0, none⟩ = some (.int .i64 0) := by rw [hc2 _ _ (by omega)]; simp [go_sem]
  have r21 : w2.cell? ⟨w.heap.size, 1, none⟩ = some (.string ⟨#[]⟩) := by rw [hc2 _ _ (by omega)]; simp [go_sem]
  have r22 : w2.cell? ⟨w.heap.size, 2, none⟩ = some (.slice none 0 0) := by rw [hc2 _ _ (by omega)]; simp [go_sem]
  have r23 : w2.cell? ⟨w.heap.size, 3, none⟩ = some (.int .i64 0) := by rw [hc2 _ _ (by omega)]; simp [go_sem]
  have r24 : w2.cell? ⟨w.heap.size, 4, none⟩ = some (.int .i64 0) := by rw [hc2 _ _ (by omega)]; simp [go_sem]
  have q20 : w2.frozen? ⟨w.heap.size, 0, none⟩ = false := by rw [hf2 _ _ (by omega)]; simp [go_sem]
  have q21 : w2.frozen? ⟨w.heap.size, 1, none⟩ = false := by rw [hf2 _ _ (by omega)]; simp [go_sem]
  have q22 : w2.frozen? ⟨w.heap.size, 2, none⟩ = false := by rw [hf2 _ _ (by omega)]; simp [go_sem]
  have q23 : w2.frozen? ⟨w.heap.size, 3, none⟩ = false := by rw [hf2 _ _ (by omega)]; simp [go_sem]
  have q24 : w2.frozen? ⟨w.heap.size, 4, none⟩ = false := by rw [hf2 _ _ (by omega)]; simp [go_sem]
  have p22 : w2.cell? ⟨w.heap.size + 1, 2, none⟩ = some (.string q2) := by rw [hc2 _ _ (by omega)]; simp [go_sem, p2]
  have s20 : w2.cell? ⟨w.heap.size + 1 + 1, 0, none⟩ = some (.int .i64 7) := by rw [hc2 _ _ (by omega)]; simp [go_sem]
  have s21 : w2.cell? ⟨w.heap.size + 1 + 1, 1, none⟩ = some (.string ⟨#[]⟩) := by rw [hc2 _ _ (by omega)]; simp [go_sem]
  have s22 : w2.cell? ⟨w.heap.size + 1 + 1, 2, none⟩ = some (.slice none 0 0) := by rw [hc2 _ _ (by omega)]; simp [go_sem]
  have s23 : w2.cell? ⟨w.heap.size + 1 + 1, 3, none⟩ = some (.int .i64 0) := by rw [hc2 _ _ (by omega)]; simp [go_sem]
  have s24 : w2.cell? ⟨w.heap.size + 1 + 1, 4, none⟩ = some (.int .i64 0) := by rw [hc2 _ _ (by omega)]; simp [go_sem]
  have t20 : w2.frozen? ⟨w.heap.size + 1 + 1, 0, none⟩ = false := by rw [hf2 _ _ (by omega)]; simp [go_sem]
  have t21 : w2.frozen? ⟨w.heap.size + 1 + 1, 1, none⟩ = false := by rw [hf2 _ _ (by omega)]; simp [go_sem]
  have t22 : w2.frozen? ⟨w.heap.size + 1 + 1, 2, none⟩ = false := by rw [hf2 _ _ (by omega)]; simp [go_sem]
  have t23 : w2.frozen? ⟨w.heap.size + 1 + 1, 3, none⟩ = false := by rw [hf2 _ _ (by omega)]; simp [go_sem]
  have t24 : w2.frozen? ⟨w.heap.size + 1 + 1, 4, none⟩ = false := by rw [hf2 _ _ (by omega)]; simp [go_sem]
  clear hc2 hf2
  clear hb2
  go_wp2_with fail
  refine (hm _ ?B).mono ?_
  case B =>
    repeat (with_reducible refine Below.setCell ?_ (by simp; try omega) _)
    exact hB2
  rintro e w3 ⟨rfl, hb3⟩
  have hB3 : Below w.heap.size w w3 := by
    refine Below.trans ?_ (hb3.mono (by simp; try omega))
    repeat (with_reducible refine Below.setCell ?_ (by simp; try omega) _)
    exact hB2
  have hz3 := hb3.size
  obtain ⟨hc3, hf3⟩ := bcell hb3
  simp only [World.size_setCell] at hc3 hf3 hz3
  have r30 : w3.cell? ⟨w.heap.size, 0, none⟩ = some (.int .i64 0) := by rw [hc3 _ _ (by omega)]; rw [World.cell?_setCell_far _ _ _ _ (by simp; try omega)]; exact r20
  have r31 : w3.cell? ⟨w.heap.size, 1, none⟩ = some (.string ⟨#[]⟩) := by rw [hc3 _ _ (by omega)]; rw [World.cell?_setCell_far _ _ _ _ (by simp; try omega)]; exact r21
  have r32 : w3.cell? ⟨w.heap.size, 2, none⟩ = some (.slice none 0 0) := by rw [hc3 _ _ (by omega)]; rw [World.cell?_setCell_far _ _ _ _ (by simp; try omega)]; exact r22
  have r33 : w3.cell? ⟨w.heap.size, 3, none⟩ = some (.int .i64 0) := by rw [hc3 _ _ (by omega)]; rw [World.cell?_setCell_far _ _ _ _ (by simp; try omega)]; exact r23
  have r34 : w3.cell? ⟨w.heap.size, 4, none⟩ = some (.int .i64 0) := by rw [hc3 _ _ (by omega)]; rw [World.cell?_setCell_far _ _ _ _ (by simp; try omega)]; exact r24
  have q30 : w3.frozen? ⟨w.heap.size, 0, none⟩ = false := by rw [hf3 _ _ (by omega)]; rw [World.frozen?_setCell]; exact q20
  have q31 : w3.frozen? ⟨w.heap.size, 1, none⟩ = false := by rw [hf3 _ _ (by omega)]; rw [World.frozen?_setCell]; exact q21
  have q32 : w3.frozen? ⟨w.heap.size, 2, none⟩ = false := by rw [hf3 _ _ (by omega)]; rw [World.frozen?_setCell]; exact q22
  have q33 : w3.frozen? ⟨w.heap.size, 3, none⟩ = false := by rw [hf3 _ _ (by omega)]; rw [World.frozen?_setCell]; exact q23
  have q34 : w3.frozen? ⟨w.heap.size, 4, none⟩ = false := by rw [hf3 _ _ (by omega)]; rw [World.frozen?_setCell]; exact q24
  have s30 : w3.cell? ⟨w.heap.size + 1 + 1, 0, none⟩ = some (.int .i64 7) := by rw [hc3 _ _ (by omega)]; exact (World.cell?_setCell_other _ _ _ _ (by simp)).trans s20
  have s31 : w3.cell? ⟨w.heap.size + 1 + 1, 1, none⟩ = some (.string ⟨#[]⟩) := by rw [hc3 _ _ (by omega)]; exact (World.cell?_setCell_other _ _ _ _ (by simp)).trans s21
  have s32 : w3.cell? ⟨w.heap.size + 1 + 1, 2, none⟩ = some (.slice none 0 0) := by rw [hc3 _ _ (by omega)]; exact (World.cell?_setCell_other _ _ _ _ (by simp)).trans s22
  have s33 : w3.cell? ⟨w.heap.size + 1 + 1, 3, none⟩ = some (.int .i64 v) := by rw [hc3 _ _ (by omega)]; exact World.cell?_setCell_same _ _ _ s23
  have s34 : w3.cell? ⟨w.heap.size + 1 + 1, 4, none⟩ = some (.int .i64 0) := by rw [hc3 _ _ (by omega)]; exact (World.cell?_setCell_other _ _ _ _ (by simp)).trans s24
  have t30 : w3.frozen? ⟨w.heap.size + 1 + 1, 0, none⟩ = false := by rw [hf3 _ _ (by omega)]; rw [World.frozen?_setCell]; exact t20
  have t31 : w3.frozen? ⟨w.heap.size + 1 + 1, 1, none⟩ = false := by rw [hf3 _ _ (by omega)]; rw [World.frozen?_setCell]; exact t21
  have t32 : w3.frozen? ⟨w.heap.size + 1 + 1, 2, none⟩ = false := by rw [hf3 _ _ (by omega)]; rw [World.frozen?_setCell]; exact t22
  have t33 : w3.frozen? ⟨w.heap.size + 1 + 1, 3, none⟩ = false := by rw [hf3 _ _ (by omega)]; rw [World.frozen?_setCell]; exact t23
  have t34 : w3.frozen? ⟨w.heap.size + 1 + 1, 4, none⟩ = false := by rw [hf3 _ _ (by omega)]; rw [World.frozen?_setCell]; exact t24
  clear hc3 hf3
  clear hb3
  go_wp2_with fail
  refine ret_step _ _ w.heap.size _ _ _ _ _ _ _ _ _ _ _ _ (by rfl) (by rfl) (by rw [World.cell?_setCell_far _ _ _ _ (by simp; try omega)]; exact r30) (by rw [World.cell?_setCell_far _ _ _ _ (by simp; try omega)]; exact r31) (by rw [World.cell?_setCell_far _ _ _ _ (by simp; try omega)]; exact r32) (by rw [World.cell?_setCell_far _ _ _ _ (by simp; try omega)]; exact r33) (by rw [World.cell?_setCell_far _ _ _ _ (by simp; try omega)]; exact r34) ⟨rfl, ?_⟩
  repeat (with_reducible refine Below.setCell ?_ (by simp; try omega) _)
  exact hB3

set_option maxHeartbeats 8000000 in
set_option maxRecDepth 100000 in
/-- A line 'put q r' where r is decoded to nothing. -/
theorem step_put3a (q1 q2 d : ByteArray) (n : Int) (hne : (n != 0) = true) (line : ByteArray) (w : World) (hw : WordsAt w) (h0 : 0 < w.heap.size) (hsh : ∀ W : World, Below w.heap.size w W → W.ShapedOpen Tryz.prog) (hn : Decodes q2 d n) (hs : Splits line [⟨#[112, 117, 116]⟩, q1, q2]) :
    Calls Tryz.prog 47 #[.string line] w fun e w' => e = .returned (.tuple #[.agg #[.int .i64 0, .string ⟨#[]⟩, .slice none 0 0, .int .i64 0, .int .i64 0], .bool false]) ∧ Below w.heap.size w w' := by
  obtain ⟨a0, a1, a2, a3, a4, a5, a6, a7, a8⟩ := hw
  have ix0 : ∀ w : World, (Instr.index 94 (.agg #[.string ⟨#[]⟩, .string ⟨#[112, 117, 116]⟩, .string ⟨#[100, 114, 111, 112]⟩, .string ⟨#[98, 117, 105, 108, 100]⟩, .string ⟨#[112, 117, 98, 108, 105, 115, 104]⟩, .string ⟨#[114, 101, 97, 100]⟩, .string ⟨#[102, 117, 115, 101]⟩, .string ⟨#[99, 114, 97, 115, 104]⟩, .string ⟨#[115, 119, 101, 101, 112]⟩]) (.int .i64 0)).run Tryz.prog w = .ok (.string ⟨#[]⟩) w := fun _ => by kernel_rfl
  have ix1 : ∀ w : World, (Instr.index 94 (.agg #[.string ⟨#[]⟩, .string ⟨#[112, 117, 116]⟩, .string ⟨#[100, 114, 111, 112]⟩, .string ⟨#[98, 117, 105, 108, 100]⟩, .string ⟨#[112, 117, 98, 108, 105, 115, 104]⟩, .string ⟨#[114, 101, 97, 100]⟩, .string ⟨#[102, 117, 115, 101]⟩, .string ⟨#[99, 114, 97, 115, 104]⟩, .string ⟨#[115, 119, 101, 101, 112]⟩]) (.int .i64 1)).run Tryz.prog w = .ok (.string ⟨#[112, 117, 116]⟩) w := fun _ => by kernel_rfl
  have ix2 : ∀ w : World, (Instr.index 94 (.agg #[.string ⟨#[]⟩, .string ⟨#[112, 117, 116]⟩, .string ⟨#[100, 114, 111, 112]⟩, .string ⟨#[98, 117, 105, 108, 100]⟩, .string ⟨#[112, 117, 98, 108, 105, 115, 104]⟩, .string ⟨#[114, 101, 97, 100]⟩, .string ⟨#[102, 117, 115, 101]⟩, .string ⟨#[99, 114, 97, 115, 104]⟩, .string ⟨#[115, 119, 101, 101, 112]⟩]) (.int .i64 2)).run Tryz.prog w = .ok (.string ⟨#[100, 114, 111, 112]⟩) w := fun _ => by kernel_rfl
  have ix3 : ∀ w : World, (Instr.index 94 (.agg #[.string ⟨#[]⟩, .string ⟨#[112, 117, 116]⟩, .string ⟨#[100, 114, 111, 112]⟩, .string ⟨#[98, 117, 105, 108, 100]⟩, .string ⟨#[112, 117, 98, 108, 105, 115, 104]⟩, .string ⟨#[114, 101, 97, 100]⟩, .string ⟨#[102, 117, 115, 101]⟩, .string ⟨#[99, 114, 97, 115, 104]⟩, .string ⟨#[115, 119, 101, 101, 112]⟩]) (.int .i64 3)).run Tryz.prog w = .ok (.string ⟨#[98, 117, 105, 108, 100]⟩) w := fun _ => by kernel_rfl
  have ix4 : ∀ w : World, (Instr.index 94 (.agg #[.string ⟨#[]⟩, .string ⟨#[112, 117, 116]⟩, .string ⟨#[100, 114, 111, 112]⟩, .string ⟨#[98, 117, 105, 108, 100]⟩, .string ⟨#[112, 117, 98, 108, 105, 115, 104]⟩, .string ⟨#[114, 101, 97, 100]⟩, .string ⟨#[102, 117, 115, 101]⟩, .string ⟨#[99, 114, 97, 115, 104]⟩, .string ⟨#[115, 119, 101, 101, 112]⟩]) (.int .i64 4)).run Tryz.prog w = .ok (.string ⟨#[112, 117, 98, 108, 105, 115, 104]⟩) w := fun _ => by kernel_rfl
  have ix5 : ∀ w : World, (Instr.index 94 (.agg #[.string ⟨#[]⟩, .string ⟨#[112, 117, 116]⟩, .string ⟨#[100, 114, 111, 112]⟩, .string ⟨#[98, 117, 105, 108, 100]⟩, .string ⟨#[112, 117, 98, 108, 105, 115, 104]⟩, .string ⟨#[114, 101, 97, 100]⟩, .string ⟨#[102, 117, 115, 101]⟩, .string ⟨#[99, 114, 97, 115, 104]⟩, .string ⟨#[115, 119, 101, 101, 112]⟩]) (.int .i64 5)).run Tryz.prog w = .ok (.string ⟨#[114, 101, 97, 100]⟩) w := fun _ => by kernel_rfl
  have ix6 : ∀ w : World, (Instr.index 94 (.agg #[.string ⟨#[]⟩, .string ⟨#[112, 117, 116]⟩, .string ⟨#[100, 114, 111, 112]⟩, .string ⟨#[98, 117, 105, 108, 100]⟩, .string ⟨#[112, 117, 98, 108, 105, 115, 104]⟩, .string ⟨#[114, 101, 97, 100]⟩, .string ⟨#[102, 117, 115, 101]⟩, .string ⟨#[99, 114, 97, 115, 104]⟩, .string ⟨#[115, 119, 101, 101, 112]⟩]) (.int .i64 6)).run Tryz.prog w = .ok (.string ⟨#[102, 117, 115, 101]⟩) w := fun _ => by kernel_rfl
  have ix7 : ∀ w : World, (Instr.index 94 (.agg #[.string ⟨#[]⟩, .string ⟨#[112, 117, 116]⟩, .string ⟨#[100, 114, 111, 112]⟩, .string ⟨#[98, 117, 105, 108, 100]⟩, .string ⟨#[112, 117, 98, 108, 105, 115, 104]⟩, .string ⟨#[114, 101, 97, 100]⟩, .string ⟨#[102, 117, 115, 101]⟩, .string ⟨#[99, 114, 97, 115, 104]⟩, .string ⟨#[115, 119, 101, 101, 112]⟩]) (.int .i64 7)).run Tryz.prog w = .ok (.string ⟨#[99, 114, 97, 115, 104]⟩) w := fun _ => by kernel_rfl
  have ix8 : ∀ w : World, (Instr.index 94 (.agg #[.string ⟨#[]⟩, .string ⟨#[112, 117, 116]⟩, .string ⟨#[100, 114, 111, 112]⟩, .string ⟨#[98, 117, 105, 108, 100]⟩, .string ⟨#[112, 117, 98, 108, 105, 115, 104]⟩, .string ⟨#[114, 101, 97, 100]⟩, .string ⟨#[102, 117, 115, 101]⟩, .string ⟨#[99, 114, 97, 115, 104]⟩, .string ⟨#[115, 119, 101, 101, 112]⟩]) (.int .i64 8)).run Tryz.prog w = .ok (.string ⟨#[115, 119, 101, 101, 112]⟩) w := fun _ => by kernel_rfl
  have hmm := @run_makeMap Tryz.prog
  obtain ⟨cap, hs⟩ := hs (w.alloc (.cells #[.int .i64 0, .string ⟨#[]⟩, .slice none 0 0, .int .i64 0, .int .i64 0] 24)) (hsh _ ((Below.refl _ _).alloc (Nat.le_refl _) _))
  go_enter Tryz.func47, Tryz.ntmps47
  go_wp2_with fail
  refine hs.mono ?_
  rintro e w1 ⟨rfl, cs, rfl, hc⟩
  have p0 := hc 0 (by simp)
  have p1 := hc 1 (by simp)
  have p2 := hc 2 (by simp)
  simp only [List.getElem_cons_zero, List.getElem_cons_succ] at p0 p1 p2
  clear hc hs
  go_wp2_with fail
  clear a0 a1 a2 a3 a4 a5 a6 a7 a8
  refine wp_loop_rounds 10 ?_
  iterate 9 (rw [rounds_succ]; go_wp2_with fail)
  rw [rounds_succ]
  go_upto_region 9 with (fail)
  have in1 := run_put (((w.alloc (.cells #[.int .i64 0, .string ⟨#[]⟩, .slice none 0 0, .int .i64 0, .int .i64 0] 24)).alloc (.cells cs 9)).alloc (.cells #[.int .i64 1, .string ⟨#[]⟩, .slice none 0 0, .int .i64 0, .int .i64 0] 24)) #[] 0 1 3 (by rfl)
  have in2 := run_put (((w.alloc (.cells #[.int .i64 0, .string ⟨#[]⟩, .slice none 0 0, .int .i64 0, .int .i64 0] 24)).alloc (.cells cs 9)).alloc (.cells #[.int .i64 1, .string ⟨#[]⟩, .slice none 0 0, .int .i64 0, .int .i64 0] 24)) #[⟨.int .i64 1, .int .i64 3, 0⟩] 1 2 2 (by rfl)
  have in3 := run_put (((w.alloc (.cells #[.int .i64 0, .string ⟨#[]⟩, .slice none 0 0, .int .i64 0, .int .i64 0] 24)).alloc (.cells cs 9)).alloc (.cells #[.int .i64 1, .string ⟨#[]⟩, .slice none 0 0, .int .i64 0, .int .i64 0] 24)) #[⟨.int .i64 1, .int .i64 3, 0⟩, ⟨.int .i64 2, .int .i64 2, 1⟩] 2 3 1 (by rfl)
  have in4 := run_put (((w.alloc (.cells #[.int .i64 0, .string ⟨#[]⟩, .slice none 0 0, .int .i64 0, .int .i64 0] 24)).alloc (.cells cs 9)).alloc (.cells #[.int .i64 1, .string ⟨#[]⟩, .slice none 0 0, .int .i64 0, .int .i64 0] 24)) #[⟨.int .i64 1, .int .i64 3, 0⟩, ⟨.int .i64 2, .int .i64 2, 1⟩, ⟨.int .i64 3, .int .i64 1, 2⟩] 3 4 1 (by rfl)
  have in5 := run_put (((w.alloc (.cells #[.int .i64 0, .string ⟨#[]⟩, .slice none 0 0, .int .i64 0, .int .i64 0] 24)).alloc (.cells cs 9)).alloc (.cells #[.int .i64 1, .string ⟨#[]⟩, .slice none 0 0, .int .i64 0, .int .i64 0] 24)) #[⟨.int .i64 1, .int .i64 3, 0⟩, ⟨.int .i64 2, .int .i64 2, 1⟩, ⟨.int .i64 3, .int .i64 1, 2⟩, ⟨.int .i64 4, .int .i64 1, 3⟩] 4 5 2 (by rfl)
  have in6 := run_put (((w.alloc (.cells #[.int .i64 0, .string ⟨#[]⟩, .slice none 0 0, .int .i64 0, .int .i64 0] 24)).alloc (.cells cs 9)).alloc (.cells #[.int .i64 1, .string ⟨#[]⟩, .slice none 0 0, .int .i64 0, .int .i64 0] 24)) #[⟨.int .i64 1, .int .i64 3, 0⟩, ⟨.int .i64 2, .int .i64 2, 1⟩, ⟨.int .i64 3, .int .i64 1, 2⟩, ⟨.int .i64 4, .int .i64 1, 3⟩, ⟨.int .i64 5, .int .i64 2, 4⟩] 5 6 2 (by rfl)
  have in7 := run_put (((w.alloc (.cells #[.int .i64 0, .string ⟨#[]⟩, .slice none 0 0, .int .i64 0, .int .i64 0] 24)).alloc (.cells cs 9)).alloc (.cells #[.int .i64 1, .string ⟨#[]⟩, .slice none 0 0, .int .i64 0, .int .i64 0] 24)) #[⟨.int .i64 1, .int .i64 3, 0⟩, ⟨.int .i64 2, .int .i64 2, 1⟩, ⟨.int .i64 3, .int .i64 1, 2⟩, ⟨.int .i64 4, .int .i64 1, 3⟩, ⟨.int .i64 5, .int .i64 2, 4⟩, ⟨.int .i64 6, .int .i64 2, 5⟩] 6 7 3 (by rfl)
  have in8 := run_put (((w.alloc (.cells #[.int .i64 0, .string ⟨#[]⟩, .slice none 0 0, .int .i64 0, .int .i64 0] 24)).alloc (.cells cs 9)).alloc (.cells #[.int .i64 1, .string ⟨#[]⟩, .slice none 0 0, .int .i64 0, .int .i64 0] 24)) #[⟨.int .i64 1, .int .i64 3, 0⟩, ⟨.int .i64 2, .int .i64 2, 1⟩, ⟨.int .i64 3, .int .i64 1, 2⟩, ⟨.int .i64 4, .int .i64 1, 3⟩, ⟨.int .i64 5, .int .i64 2, 4⟩, ⟨.int .i64 6, .int .i64 2, 5⟩, ⟨.int .i64 7, .int .i64 3, 6⟩] 7 8 1 (by rfl)
  have gt := run_get (((w.alloc (.cells #[.int .i64 0, .string ⟨#[]⟩, .slice none 0 0, .int .i64 0, .int .i64 0] 24)).alloc (.cells cs 9)).alloc (.cells #[.int .i64 1, .string ⟨#[]⟩, .slice none 0 0, .int .i64 0, .int .i64 0] 24)) #[⟨.int .i64 1, .int .i64 3, 0⟩, ⟨.int .i64 2, .int .i64 2, 1⟩, ⟨.int .i64 3, .int .i64 1, 2⟩, ⟨.int .i64 4, .int .i64 1, 3⟩, ⟨.int .i64 5, .int .i64 2, 4⟩, ⟨.int .i64 6, .int .i64 2, 5⟩, ⟨.int .i64 7, .int .i64 3, 6⟩, ⟨.int .i64 8, .int .i64 1, 7⟩] 8 1 3 0 (by rfl)
  simp only [World.size_alloc, List.push_toArray, List.cons_append, List.nil_append, Nat.reduceAdd] at in1 in2 in3 in4 in5 in6 in7 in8 gt
  clear ix0 ix1 ix2 ix3 ix4 ix5 ix6 ix7 ix8
  go_wp2_with fail
  refine (hn _).mono ?_
  rintro e w2 ⟨rfl, hb2⟩
  have hB2 : Below w.heap.size w w2 := by
    refine Below.trans ?_ (hb2.mono (by simp; try omega))
    repeat (first | exact Below.refl _ _ | refine Below.drew ?_ | refine Below.alloc ?_ (by simp; try omega) _ | refine Below.setCell ?_ (by simp; try omega) _)
  have hz2 := hb2.size
  obtain ⟨hc2, hf2⟩ := bcell hb2
  simp only [World.size_alloc] at hc2 hf2 hz2
  have r20 : w2.cell? ⟨w.heap.size, 0, none⟩ = some (.int .i64 0) := by rw [hc2 _ _ (by omega)]; simp [go_sem]
  have r21 : w2.cell? ⟨w.heap.size, 1, none⟩ = some (.string ⟨#[]⟩) := by rw [hc2 _ _ (by omega)]; simp [go_sem]
  have r22 : w2.cell? ⟨w.heap.size, 2, none⟩ = some (.slice none 0 0) := by rw [hc2 _ _ (by omega)]; simp [go_sem]
  have r23 : w2.cell? ⟨w.heap.size, 3, none⟩ = some (.int .i64 0) := by rw [hc2 _ _ (by omega)]; simp [go_sem]
  have r24 : w2.cell? ⟨w.heap.size, 4, none⟩ = some (.int .i64 0) := by rw [hc2 _ _ (by omega)]; simp [go_sem]
  have q20 : w2.frozen? ⟨w.heap.size, 0, none⟩ = false := by rw [hf2 _ _ (by omega)]; simp [go_sem]
  have q21 : w2.frozen? ⟨w.heap.size, 1, none⟩ = false := by rw [hf2 _ _ (by omega)]; simp [go_sem]
  have q22 : w2.frozen? ⟨w.heap.size, 2, none⟩ = false := by rw [hf2 _ _ (by omega)]; simp [go_sem]
  have q23 : w2.frozen? ⟨w.heap.size, 3, none⟩ = false := by rw [hf2 _ _ (by omega)]; simp [go_sem]
  have q24 : w2.frozen? ⟨w.heap.size, 4, none⟩ = false := by rw [hf2 _ _ (by omega)]; simp [go_sem]
  have s20 : w2.cell? ⟨w.heap.size + 1 + 1, 0, none⟩ = some (.int .i64 1) := by rw [hc2 _ _ (by omega)]; simp [go_sem]
  have s21 : w2.cell? ⟨w.heap.size + 1 + 1, 1, none⟩ = some (.string ⟨#[]⟩) := by rw [hc2 _ _ (by omega)]; simp [go_sem]
  have s22 : w2.cell? ⟨w.heap.size + 1 + 1, 2, none⟩ = some (.slice none 0 0) := by rw [hc2 _ _ (by omega)]; simp [go_sem]
  have s23 : w2.cell? ⟨w.heap.size + 1 + 1, 3, none⟩ = some (.int .i64 0) := by rw [hc2 _ _ (by omega)]; simp [go_sem]
  have s24 : w2.cell? ⟨w.heap.size + 1 + 1, 4, none⟩ = some (.int .i64 0) := by rw [hc2 _ _ (by omega)]; simp [go_sem]
  have t20 : w2.frozen? ⟨w.heap.size + 1 + 1, 0, none⟩ = false := by rw [hf2 _ _ (by omega)]; simp [go_sem]
  have t21 : w2.frozen? ⟨w.heap.size + 1 + 1, 1, none⟩ = false := by rw [hf2 _ _ (by omega)]; simp [go_sem]
  have t22 : w2.frozen? ⟨w.heap.size + 1 + 1, 2, none⟩ = false := by rw [hf2 _ _ (by omega)]; simp [go_sem]
  have t23 : w2.frozen? ⟨w.heap.size + 1 + 1, 3, none⟩ = false := by rw [hf2 _ _ (by omega)]; simp [go_sem]
  have t24 : w2.frozen? ⟨w.heap.size + 1 + 1, 4, none⟩ = false := by rw [hf2 _ _ (by omega)]; simp [go_sem]
  clear hc2 hf2
  clear hb2
  go_wp2_with fail
  refine ret_step _ _ w.heap.size _ _ _ _ _ _ _ _ _ _ _ _ (by rfl) (by rfl) r20 r21 r22 r23 r24 ⟨rfl, ?_⟩
  repeat (with_reducible refine Below.setCell ?_ (by simp; try omega) _)
  exact hB2

end Go.Proofs.YtibknkdgdfdkiaaGreatDoor.hubForms
