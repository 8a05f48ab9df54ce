/-
  hub.step at a line 'put q r' that is one: what it gives.
-/
import Derived.Test.YtibknkdgdfdkiaaGreatDoorHubStepB
import Derived.Lib.Hide
namespace Go.Proofs.YtibknkdgdfdkiaaGreatDoor.hubForms
open Go.RowKit

set_option maxHeartbeats 8000000 in
set_option maxRecDepth 100000 in
/-- A line 'put q r'. -/
theorem step_put3 (q1 q2 d : ByteArray) (line : ByteArray) (w : World) (hw : WordsAt w) (h0 : 0 < w.heap.size) (hsh : ∀ W : World, Below w.heap.size w W → W.ShapedOpen Tryz.prog) (hn : Decodes q2 d 0) (hs : Splits line [⟨#[112, 117, 116]⟩, q1, q2]) :
    Calls Tryz.prog 47 #[.string line] w fun e w' => ∃ g v, e = .returned (.tuple #[.agg #[.int .i64 1, .string q1, .slice (some ⟨g, 0, none⟩) d.size v, .int .i64 0, .int .i64 0], .bool true]) ∧ w.heap.size ≤ g ∧ g < w'.heap.size ∧ (∀ j, j < d.size → w'.cell? ⟨g, j, none⟩ = some (.int .u8 (d.data.toList.getD j 0).toNat)) ∧ Below w.heap.size w w' := by
  obtain ⟨a0, a1, a2, a3, a4, a5, a6, a7, a8⟩ := hw
  have ix0 : ∀ w : World, (Instr.index 94 (.agg #[.string ⟨#[]⟩, .string ⟨#[112, 117, 116]⟩, .string ⟨#[100, 114, 111, 112]⟩, .string ⟨#[98, 117, 105, 108, 100]⟩, .string ⟨#[112, 117, 98, 108, 105, 115, 104]⟩, .string ⟨#[114, 101, 97, 100]⟩, .string ⟨#[102, 117, 115, 101]⟩, .string ⟨#[99, 114, 97, 115, 104]⟩, .string ⟨#[115, 119, 101, 101, 112]⟩]) (.int .i64 0)).run Tryz.prog w = .ok (.string ⟨#[]⟩) w := fun _ => by kernel_rfl
  have ix1 : ∀ w : World, (Instr.index 94 (.agg #[.string ⟨#[]⟩, .string ⟨#[112, 117, 116]⟩, .string ⟨#[100, 114, 111, 112]⟩, .string ⟨#[98, 117, 105, 108, 100]⟩, .string ⟨#[112, 117, 98, 108, 105, 115, 104]⟩, .string ⟨#[114, 101, 97, 100]⟩, .string ⟨#[102, 117, 115, 101]⟩, .string ⟨#[99, 114, 97, 115, 104]⟩, .string ⟨#[115, 119, 101, 101, 112]⟩]) (.int .i64 1)).run Tryz.prog w = .ok (.string ⟨#[112, 117, 116]⟩) w := fun _ => by kernel_rfl
  have ix2 : ∀ w : World, (Instr.index 94 (.agg #[.string ⟨#[]⟩, .string ⟨#[112, 117, 116]⟩, .string ⟨#[100, 114, 111, 112]⟩, .string ⟨#[98, 117, 105, 108, 100]⟩, .string ⟨#[112, 117, 98, 108, 105, 115, 104]⟩, .string ⟨#[114, 101, 97, 100]⟩, .string ⟨#[102, 117, 115, 101]⟩, .string ⟨#[99, 114, 97, 115, 104]⟩, .string ⟨#[115, 119, 101, 101, 112]⟩]) (.int .i64 2)).run Tryz.prog w = .ok (.string ⟨#[100, 114, 111, 112]⟩) w := fun _ => by kernel_rfl
  have ix3 : ∀ w : World, (Instr.index 94 (.agg #[.string ⟨#[]⟩, .string ⟨#[112, 117, 116]⟩, .string ⟨#[100, 114, 111, 112]⟩, .string ⟨#[98, 117, 105, 108, 100]⟩, .string ⟨#[112, 117, 98, 108, 105, 115, 104]⟩, .string ⟨#[114, 101, 97, 100]⟩, .string ⟨#[102, 117, 115, 101]⟩, .string ⟨#[99, 114, 97, 115, 104]⟩, .string ⟨#[115, 119, 101, 101, 112]⟩]) (.int .i64 3)).run Tryz.prog w = .ok (.string ⟨#[98, 117, 105, 108, 100]⟩) w := fun _ => by kernel_rfl
  have ix4 : ∀ w : World, (Instr.index 94 (.agg #[.string ⟨#[]⟩, .string ⟨#[112, 117, 116]⟩, .string ⟨#[100, 114, 111, 112]⟩, .string ⟨#[98, 117, 105, 108, 100]⟩, .string ⟨#[112, 117, 98, 108, 105, 115, 104]⟩, .string ⟨#[114, 101, 97, 100]⟩, .string ⟨#[102, 117, 115, 101]⟩, .string ⟨#[99, 114, 97, 115, 104]⟩, .string ⟨#[115, 119, 101, 101, 112]⟩]) (.int .i64 4)).run Tryz.prog w = .ok (.string ⟨#[112, 117, 98, 108, 105, 115, 104]⟩) w := fun _ => by kernel_rfl
  have ix5 : ∀ w : World, (Instr.index 94 (.agg #[.string ⟨#[]⟩, .string ⟨#[112, 117, 116]⟩, .string ⟨#[100, 114, 111, 112]⟩, .string ⟨#[98, 117, 105, 108, 100]⟩, .string ⟨#[112, 117, 98, 108, 105, 115, 104]⟩, .string ⟨#[114, 101, 97, 100]⟩, .string ⟨#[102, 117, 115, 101]⟩, .string ⟨#[99, 114, 97, 115, 104]⟩, .string ⟨#[115, 119, 101, 101, 112]⟩]) (.int .i64 5)).run Tryz.prog w = .ok (.string ⟨#[114, 101, 97, 100]⟩) w := fun _ => by kernel_rfl
  have ix6 : ∀ w : World, (Instr.index 94 (.agg #[.string ⟨#[]⟩, .string ⟨#[112, 117, 116]⟩, .string ⟨#[100, 114, 111, 112]⟩, .string ⟨#[98, 117, 105, 108, 100]⟩, .string ⟨#[112, 117, 98, 108, 105, 115, 104]⟩, .string ⟨#[114, 101, 97, 100]⟩, .string ⟨#[102, 117, 115, 101]⟩, .string ⟨#[99, 114, 97, 115, 104]⟩, .string ⟨#[115, 119, 101, 101, 112]⟩]) (.int .i64 6)).run Tryz.prog w = .ok (.string ⟨#[102, 117, 115, 101]⟩) w := fun _ => by kernel_rfl
  have ix7 : ∀ w : World, (Instr.index 94 (.agg #[.string ⟨#[]⟩, .string ⟨#[112, 117, 116]⟩, .string ⟨#[100, 114, 111, 112]⟩, .string ⟨#[98, 117, 105, 108, 100]⟩, .string ⟨#[112, 117, 98, 108, 105, 115, 104]⟩, .string ⟨#[114, 101, 97, 100]⟩, .string ⟨#[102, 117, 115, 101]⟩, .string ⟨#[99, 114, 97, 115, 104]⟩, .string ⟨#[115, 119, 101, 101, 112]⟩]) (.int .i64 7)).run Tryz.prog w = .ok (.string ⟨#[99, 114, 97, 115, 104]⟩) w := fun _ => by kernel_rfl
  have ix8 : ∀ w : World, (Instr.index 94 (.agg #[.string ⟨#[]⟩, .string ⟨#[112, 117, 116]⟩, .string ⟨#[100, 114, 111, 112]⟩, .string ⟨#[98, 117, 105, 108, 100]⟩, .string ⟨#[112, 117, 98, 108, 105, 115, 104]⟩, .string ⟨#[114, 101, 97, 100]⟩, .string ⟨#[102, 117, 115, 101]⟩, .string ⟨#[99, 114, 97, 115, 104]⟩, .string ⟨#[115, 119, 101, 101, 112]⟩]) (.int .i64 8)).run Tryz.prog w = .ok (.string ⟨#[115, 119, 101, 101, 112]⟩) w := fun _ => by kernel_rfl
  have hconv := fun (w : World) (s : ByteArray) => Lib.run_convert_string_bytes (P := Tryz.prog) w 9 22 5 s Tryz.underlying9 Tryz.underlying22 Tryz.underlying5
  have hmm := @run_makeMap Tryz.prog
  obtain ⟨cap, hs⟩ := hs (w.alloc (.cells #[.int .i64 0, .string ⟨#[]⟩, .slice none 0 0, .int .i64 0, .int .i64 0] 24)) (hsh _ ((Below.refl _ _).alloc (Nat.le_refl _) _))
  go_enter Tryz.func47, Tryz.ntmps47
  go_wp2_with fail
  refine hs.mono ?_
  rintro e w1 ⟨rfl, cs, rfl, hc⟩
  have p0 := hc 0 (by simp)
  have p1 := hc 1 (by simp)
  have p2 := hc 2 (by simp)
  simp only [List.getElem_cons_zero, List.getElem_cons_succ] at p0 p1 p2
  clear hc hs
  go_wp2_with fail
  clear a0 a1 a2 a3 a4 a5 a6 a7 a8
  refine wp_loop_rounds 10 ?_
  iterate 9 (rw [rounds_succ]; go_wp2_with fail)
  rw [rounds_succ]
  go_upto_region 9 with (fail)
  have in1 := run_put (((w.alloc (.cells #[.int .i64 0, .string ⟨#[]⟩, .slice none 0 0, .int .i64 0, .int .i64 0] 24)).alloc (.cells cs 9)).alloc (.cells #[.int .i64 1, .string ⟨#[]⟩, .slice none 0 0, .int .i64 0, .int .i64 0] 24)) #[] 0 1 3 (by rfl)
  have in2 := run_put (((w.alloc (.cells #[.int .i64 0, .string ⟨#[]⟩, .slice none 0 0, .int .i64 0, .int .i64 0] 24)).alloc (.cells cs 9)).alloc (.cells #[.int .i64 1, .string ⟨#[]⟩, .slice none 0 0, .int .i64 0, .int .i64 0] 24)) #[⟨.int .i64 1, .int .i64 3, 0⟩] 1 2 2 (by rfl)
  have in3 := run_put (((w.alloc (.cells #[.int .i64 0, .string ⟨#[]⟩, .slice none 0 0, .int .i64 0, .int .i64 0] 24)).alloc (.cells cs 9)).alloc (.cells #[.int .i64 1, .string ⟨#[]⟩, .slice none 0 0, .int .i64 0, .int .i64 0] 24)) #[⟨.int .i64 1, .int .i64 3, 0⟩, ⟨.int .i64 2, .int .i64 2, 1⟩] 2 3 1 (by rfl)
  have in4 := run_put (((w.alloc (.cells #[.int .i64 0, .string ⟨#[]⟩, .slice none 0 0, .int .i64 0, .int .i64 0] 24)).alloc (.cells cs 9)).alloc (.cells #[.int .i64 1, .string ⟨#[]⟩, .slice none 0 0, .int .i64 0, .int .i64 0] 24)) #[⟨.int .i64 1, .int .i64 3, 0⟩, ⟨.int .i64 2, .int .i64 2, 1⟩, ⟨.int .i64 3, .int .i64 1, 2⟩] 3 4 1 (by rfl)
  have in5 := run_put (((w.alloc (.cells #[.int .i64 0, .string ⟨#[]⟩, .slice none 0 0, .int .i64 0, .int .i64 0] 24)).alloc (.cells cs 9)).alloc (.cells #[.int .i64 1, .string ⟨#[]⟩, .slice none 0 0, .int .i64 0, .int .i64 0] 24)) #[⟨.int .i64 1, .int .i64 3, 0⟩, ⟨.int .i64 2, .int .i64 2, 1⟩, ⟨.int .i64 3, .int .i64 1, 2⟩, ⟨.int .i64 4, .int .i64 1, 3⟩] 4 5 2 (by rfl)
  have in6 := run_put (((w.alloc (.cells #[.int .i64 0, .string ⟨#[]⟩, .slice none 0 0, .int .i64 0, .int .i64 0] 24)).alloc (.cells cs 9)).alloc (.cells #[.int .i64 1, .string ⟨#[]⟩, .slice none 0 0, .int .i64 0, .int .i64 0] 24)) #[⟨.int .i64 1, .int .i64 3, 0⟩, ⟨.int .i64 2, .int .i64 2, 1⟩, ⟨.int .i64 3, .int .i64 1, 2⟩, ⟨.int .i64 4, .int .i64 1, 3⟩, ⟨.int .i64 5, .int .i64 2, 4⟩] 5 6 2 (by rfl)
  have in7 := run_put (((w.alloc (.cells #[.int .i64 0, .string ⟨#[]⟩, .slice none 0 0, .int .i64 0, .int .i64 0] 24)).alloc (.cells cs 9)).alloc (.cells #[.int .i64 1, .string ⟨#[]⟩, .slice none 0 0, .int .i64 0, .int .i64 0] 24)) #[⟨.int .i64 1, .int .i64 3, 0⟩, ⟨.int .i64 2, .int .i64 2, 1⟩, ⟨.int .i64 3, .int .i64 1, 2⟩, ⟨.int .i64 4, .int .i64 1, 3⟩, ⟨.int .i64 5, .int .i64 2, 4⟩, ⟨.int .i64 6, .int .i64 2, 5⟩] 6 7 3 (by rfl)
  have in8 := run_put (((w.alloc (.cells #[.int .i64 0, .string ⟨#[]⟩, .slice none 0 0, .int .i64 0, .int .i64 0] 24)).alloc (.cells cs 9)).alloc (.cells #[.int .i64 1, .string ⟨#[]⟩, .slice none 0 0, .int .i64 0, .int .i64 0] 24)) #[⟨.int .i64 1, .int .i64 3, 0⟩, ⟨.int .i64 2, .int .i64 2, 1⟩, ⟨.int .i64 3, .int .i64 1, 2⟩, ⟨.int .i64 4, .int .i64 1, 3⟩, ⟨.int .i64 5, .int .i64 2, 4⟩, ⟨.int .i64 6, .int .i64 2, 5⟩, ⟨.int .i64 7, .int .i64 3, 6⟩] 7 8 1 (by rfl)
  have gt := run_get (((w.alloc (.cells #[.int .i64 0, .string ⟨#[]⟩, .slice none 0 0, .int .i64 0, .int .i64 0] 24)).alloc (.cells cs 9)).alloc (.cells #[.int .i64 1, .string ⟨#[]⟩, .slice none 0 0, .int .i64 0, .int .i64 0] 24)) #[⟨.int .i64 1, .int .i64 3, 0⟩, ⟨.int .i64 2, .int .i64 2, 1⟩, ⟨.int .i64 3, .int .i64 1, 2⟩, ⟨.int .i64 4, .int .i64 1, 3⟩, ⟨.int .i64 5, .int .i64 2, 4⟩, ⟨.int .i64 6, .int .i64 2, 5⟩, ⟨.int .i64 7, .int .i64 3, 6⟩, ⟨.int .i64 8, .int .i64 1, 7⟩] 8 1 3 0 (by rfl)
  simp only [World.size_alloc, List.push_toArray, List.cons_append, List.nil_append, Nat.reduceAdd] at in1 in2 in3 in4 in5 in6 in7 in8 gt
  clear ix0 ix1 ix2 ix3 ix4 ix5 ix6 ix7 ix8
  go_wp2_with fail
  refine (hn _).mono ?_
  rintro e w2 ⟨rfl, hb2⟩
  have hB2 : Below w.heap.size w w2 := by
    refine Below.trans ?_ (hb2.mono (by simp; try omega))
    repeat (first | exact Below.refl _ _ | refine Below.drew ?_ | refine Below.alloc ?_ (by simp; try omega) _ | refine Below.setCell ?_ (by simp; try omega) _)
  have hz2 := hb2.size
  obtain ⟨hc2, hf2⟩ := bcell hb2
  simp only [World.size_alloc] at hc2 hf2 hz2
  have r20 : w2.cell? ⟨w.heap.size, 0, none⟩ = some (.int .i64 0) := by rw [hc2 _ _ (by omega)]; simp [go_sem]
  have r21 : w2.cell? ⟨w.heap.size, 1, none⟩ = some (.string ⟨#[]⟩) := by rw [hc2 _ _ (by omega)]; simp [go_sem]
  have r22 : w2.cell? ⟨w.heap.size, 2, none⟩ = some (.slice none 0 0) := by rw [hc2 _ _ (by omega)]; simp [go_sem]
  have r23 : w2.cell? ⟨w.heap.size, 3, none⟩ = some (.int .i64 0) := by rw [hc2 _ _ (by omega)]; simp [go_sem]
  have r24 : w2.cell? ⟨w.heap.size, 4, none⟩ = some (.int .i64 0) := by rw [hc2 _ _ (by omega)]; simp [go_sem]
  have q20 : w2.frozen? ⟨w.heap.size, 0, none⟩ = false := by rw [hf2 _ _ (by omega)]; simp [go_sem]
  have q21 : w2.frozen? ⟨w.heap.size, 1, none⟩ = false := by rw [hf2 _ _ (by omega)]; simp [go_sem]
  have q22 : w2.frozen? ⟨w.heap.size, 2, none⟩ = false := by rw [hf2 _ _ (by omega)]; simp [go_sem]
  have q23 : w2.frozen? ⟨w.heap.size, 3, none⟩ = false := by rw [hf2 _ _ (by omega)]; simp [go_sem]
  have q24 : w2.frozen? ⟨w.heap.size, 4, none⟩ = false := by rw [hf2 _ _ (by omega)]; simp [go_sem]
  have p21 : w2.cell? ⟨w.heap.size + 1, 1, none⟩ = some (.string q1) := by rw [hc2 _ _ (by omega)]; simp [go_sem, p1]
  have s20 : w2.cell? ⟨w.heap.size + 1 + 1, 0, none⟩ = some (.int .i64 1) := by rw [hc2 _ _ (by omega)]; simp [go_sem]
  have s21 : w2.cell? ⟨w.heap.size + 1 + 1, 1, none⟩ = some (.string ⟨#[]⟩) := by rw [hc2 _ _ (by omega)]; simp [go_sem]
  have s22 : w2.cell? ⟨w.heap.size + 1 + 1, 2, none⟩ = some (.slice none 0 0) := by rw [hc2 _ _ (by omega)]; simp [go_sem]
  have s23 : w2.cell? ⟨w.heap.size + 1 + 1, 3, none⟩ = some (.int .i64 0) := by rw [hc2 _ _ (by omega)]; simp [go_sem]
  have s24 : w2.cell? ⟨w.heap.size + 1 + 1, 4, none⟩ = some (.int .i64 0) := by rw [hc2 _ _ (by omega)]; simp [go_sem]
  have t20 : w2.frozen? ⟨w.heap.size + 1 + 1, 0, none⟩ = false := by rw [hf2 _ _ (by omega)]; simp [go_sem]
  have t21 : w2.frozen? ⟨w.heap.size + 1 + 1, 1, none⟩ = false := by rw [hf2 _ _ (by omega)]; simp [go_sem]
  have t22 : w2.frozen? ⟨w.heap.size + 1 + 1, 2, none⟩ = false := by rw [hf2 _ _ (by omega)]; simp [go_sem]
  have t23 : w2.frozen? ⟨w.heap.size + 1 + 1, 3, none⟩ = false := by rw [hf2 _ _ (by omega)]; simp [go_sem]
  have t24 : w2.frozen? ⟨w.heap.size + 1 + 1, 4, none⟩ = false := by rw [hf2 _ _ (by omega)]; simp [go_sem]
  clear hc2 hf2
  clear hb2
  have hbX : Below w2.heap.size w2 (Lib.bytesWorld w2 5 d) := ⟨rfl, rfl, rfl, by rw [Lib.bytesWorld_size]; omega, fun k hk => Lib.bytesWorld_at_old w2 _ d k hk⟩
  have hz5 := hbX.size
  obtain ⟨hc5, hf5⟩ := bcell hbX
  have r50 : (Lib.bytesWorld w2 5 d).cell? ⟨w.heap.size, 0, none⟩ = some (.int .i64 0) := by rw [hc5 _ _ (by omega)]; exact r20
  have r51 : (Lib.bytesWorld w2 5 d).cell? ⟨w.heap.size, 1, none⟩ = some (.string ⟨#[]⟩) := by rw [hc5 _ _ (by omega)]; exact r21
  have r52 : (Lib.bytesWorld w2 5 d).cell? ⟨w.heap.size, 2, none⟩ = some (.slice none 0 0) := by rw [hc5 _ _ (by omega)]; exact r22
  have r53 : (Lib.bytesWorld w2 5 d).cell? ⟨w.heap.size, 3, none⟩ = some (.int .i64 0) := by rw [hc5 _ _ (by omega)]; exact r23
  have r54 : (Lib.bytesWorld w2 5 d).cell? ⟨w.heap.size, 4, none⟩ = some (.int .i64 0) := by rw [hc5 _ _ (by omega)]; exact r24
  have q50 : (Lib.bytesWorld w2 5 d).frozen? ⟨w.heap.size, 0, none⟩ = false := by rw [hf5 _ _ (by omega)]; exact q20
  have q51 : (Lib.bytesWorld w2 5 d).frozen? ⟨w.heap.size, 1, none⟩ = false := by rw [hf5 _ _ (by omega)]; exact q21
  have q52 : (Lib.bytesWorld w2 5 d).frozen? ⟨w.heap.size, 2, none⟩ = false := by rw [hf5 _ _ (by omega)]; exact q22
  have q53 : (Lib.bytesWorld w2 5 d).frozen? ⟨w.heap.size, 3, none⟩ = false := by rw [hf5 _ _ (by omega)]; exact q23
  have q54 : (Lib.bytesWorld w2 5 d).frozen? ⟨w.heap.size, 4, none⟩ = false := by rw [hf5 _ _ (by omega)]; exact q24
  have s50 : (Lib.bytesWorld w2 5 d).cell? ⟨w.heap.size + 1 + 1, 0, none⟩ = some (.int .i64 1) := by rw [hc5 _ _ (by omega)]; exact s20
  have s51 : (Lib.bytesWorld w2 5 d).cell? ⟨w.heap.size + 1 + 1, 1, none⟩ = some (.string ⟨#[]⟩) := by rw [hc5 _ _ (by omega)]; exact s21
  have s52 : (Lib.bytesWorld w2 5 d).cell? ⟨w.heap.size + 1 + 1, 2, none⟩ = some (.slice none 0 0) := by rw [hc5 _ _ (by omega)]; exact s22
  have s53 : (Lib.bytesWorld w2 5 d).cell? ⟨w.heap.size + 1 + 1, 3, none⟩ = some (.int .i64 0) := by rw [hc5 _ _ (by omega)]; exact s23
  have s54 : (Lib.bytesWorld w2 5 d).cell? ⟨w.heap.size + 1 + 1, 4, none⟩ = some (.int .i64 0) := by rw [hc5 _ _ (by omega)]; exact s24
  have t50 : (Lib.bytesWorld w2 5 d).frozen? ⟨w.heap.size + 1 + 1, 0, none⟩ = false := by rw [hf5 _ _ (by omega)]; exact t20
  have t51 : (Lib.bytesWorld w2 5 d).frozen? ⟨w.heap.size + 1 + 1, 1, none⟩ = false := by rw [hf5 _ _ (by omega)]; exact t21
  have t52 : (Lib.bytesWorld w2 5 d).frozen? ⟨w.heap.size + 1 + 1, 2, none⟩ = false := by rw [hf5 _ _ (by omega)]; exact t22
  have t53 : (Lib.bytesWorld w2 5 d).frozen? ⟨w.heap.size + 1 + 1, 3, none⟩ = false := by rw [hf5 _ _ (by omega)]; exact t23
  have t54 : (Lib.bytesWorld w2 5 d).frozen? ⟨w.heap.size + 1 + 1, 4, none⟩ = false := by rw [hf5 _ _ (by omega)]; exact t24
  clear hc5 hf5
  have HX := Lib.hid hbX
  have HB := Lib.hid hB2
  clear hbX hB2 hz5
  go_wp2_with fail
  refine ret_step _ _ w.heap.size _ _ _ _ _ _ _ _ _ _ _ _ (by rfl) (by rfl) (by rw [World.cell?_setCell_far _ _ _ _ (by simp; try omega), World.cell?_setCell_far _ _ _ _ (by simp; try omega)]; exact r50) (by rw [World.cell?_setCell_far _ _ _ _ (by simp; try omega), World.cell?_setCell_far _ _ _ _ (by simp; try omega)]; exact r51) (by rw [World.cell?_setCell_far _ _ _ _ (by simp; try omega), World.cell?_setCell_far _ _ _ _ (by simp; try omega)]; exact r52) (by rw [World.cell?_setCell_far _ _ _ _ (by simp; try omega), World.cell?_setCell_far _ _ _ _ (by simp; try omega)]; exact r53) (by rw [World.cell?_setCell_far _ _ _ _ (by simp; try omega), World.cell?_setCell_far _ _ _ _ (by simp; try omega)]; exact r54) ⟨w2.heap.size, grownCap w2 d.size 0 5, rfl, HB.out.size, ?_, ?_, ?_⟩
  · simp only [World.size_setCell, Lib.bytesWorld_size]
    omega
  · intro j hj
    rw [World.cell?_setCell_far _ _ _ _ (by simp; omega), World.cell?_setCell_far _ _ _ _ (by simp; omega), World.cell?_setCell_far _ _ _ _ (by simp; omega), World.cell?_setCell_far _ _ _ _ (by simp; omega), World.cell?_setCell_far _ _ _ _ (by simp; omega), World.cell?_setCell_far _ _ _ _ (by simp; omega), World.cell?_setCell_far _ _ _ _ (by simp; omega)]
    exact Lib.bytesWorld_cell _ _ _ _ hj
  · have hB := HB.out.trans (HX.out.mono HB.out.size)
    repeat (with_reducible refine Below.setCell ?_ (by simp; try omega) _)
    exact hB

end Go.Proofs.YtibknkdgdfdkiaaGreatDoor.hubForms
