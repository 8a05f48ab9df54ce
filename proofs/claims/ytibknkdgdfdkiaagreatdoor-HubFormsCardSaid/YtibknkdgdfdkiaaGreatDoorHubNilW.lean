/-
  The walk of HubNil: a nil hub does nothing, a step whose kind is none is told; for every step, in every memory. No condition.
-/
import Derived.Test.YtibknkdgdfdkiaaGreatDoorProg
import Derived.WalkKit
import Derived.WalkLawsBesides
import Derived.WalkSpells
import Derived.Deep.RegionHeld3
import Derived.Laws.BitsLemmas
namespace Go.Proofs.YtibknkdgdfdkiaaGreatDoor.hubNil
open Go.RowKit

theorem head_walk (w : World) : Calls Tryz.prog 7 #[] w fun e w' => e = .returned (.bool true) ∧ Below w.heap.size w w' := by
  have hmm := @run_makeMap Tryz.prog
  go_enter Tryz.func7, Tryz.ntmps7
  go_wp2
  go_ret
  refine ⟨rfl, ?_⟩
  repeat (first | exact Below.refl _ _ | refine Below.drew ?_ | refine Below.alloc ?_ (by simp; try omega) _)

theorem new_walk (n : Int) (w : World) : Calls Tryz.prog 10 #[.int .i64 n] w fun e w' => e = .returned (.pointer (some ⟨w.heap.size + 1 + 1 + 1 + 1, 0, none⟩)) ∧ Below w.heap.size w w' := by
  have hmm := @run_makeMap Tryz.prog
  go_enter Tryz.func10, Tryz.ntmps10
  go_wp2
  all_goals go_ret
  all_goals refine ⟨rfl, ?_⟩
  all_goals repeat (first | exact Below.refl _ _ | refine Below.drew ?_ | refine Below.alloc ?_ (by simp; try omega) _)

theorem do_nil (k : Int) (nm : ByteArray) (d : Value) (n t : Int) (w : World) : Calls Tryz.prog 8 #[.pointer none, .agg #[.int .i64 k, .string nm, d, .int .i64 n, .int .i64 t]] w fun e w' => e = .returned (.tuple #[.slice none 0 0, .int .i64 1]) ∧ Below w.heap.size w w' := by
  go_enter Tryz.func8, Tryz.ntmps8
  go_wp2
  go_ret2
  refine ⟨rfl, ?_⟩
  repeat (first | exact Below.refl _ _ | refine Below.drew ?_ | refine Below.alloc ?_ (by simp; try omega) _)

theorem do_other (p : Addr) (k : Int) (nm : ByteArray) (d : Value) (n t : Int) (w : World) (h1 : 9 ≤ k) : Calls Tryz.prog 8 #[.pointer (some p), .agg #[.int .i64 k, .string nm, d, .int .i64 n, .int .i64 t]] w fun e w' => e = .returned (.tuple #[.slice none 0 0, .int .i64 1]) ∧ Below w.heap.size w w' := by
  go_enter Tryz.func8, Tryz.ntmps8
  go_wp2
  go_ret2
  refine ⟨rfl, ?_⟩
  repeat (first | exact Below.refl _ _ | refine Below.drew ?_ | refine Below.alloc ?_ (by simp; try omega) _)

theorem nil17 (w : World) : Calls Tryz.prog 9 #[.pointer none] w fun e w' => e = .returned (.tuple #[.slice none 0 0, .int .i64 1]) ∧ Below w.heap.size w w' := by
  go_enter Tryz.func9, Tryz.ntmps9
  go_wp2
  go_ret2
  refine ⟨rfl, ?_⟩
  repeat (first | exact Below.refl _ _ | refine Below.drew ?_ | refine Below.alloc ?_ (by simp; try omega) _)

theorem bcell {W w1 : World} {B : Nat} (hb : Below B W w1) : (∀ b o, b < B → w1.cell? ⟨b, o, none⟩ = W.cell? ⟨b, o, none⟩) ∧ (∀ b o, b < B → w1.frozen? ⟨b, o, none⟩ = W.frozen? ⟨b, o, none⟩) :=
  ⟨fun b o h => hb.cell (p := ⟨b, o, none⟩) h, fun b o h => hb.frozen (p := ⟨b, o, none⟩) h⟩

theorem sources_nil (w : World) : Calls Tryz.prog 11 #[.pointer none] w fun e w' => e = .returned (.slice none 0 0) ∧ w = w' := by
  go_enter Tryz.func11, Tryz.ntmps11
  go_wp2
  go_ret
  exact ⟨rfl, rfl⟩
theorem down_nil (w : World) : Calls Tryz.prog 14 #[.pointer none] w fun e w' => e = .returned (.bool false) ∧ w = w' := by
  go_enter Tryz.func14, Tryz.ntmps14
  go_wp2
  go_ret
  exact ⟨rfl, rfl⟩
theorem used_nil (w : World) : Calls Tryz.prog 15 #[.pointer none] w fun e w' => e = .returned (.int .i64 0) ∧ w = w' := by
  go_enter Tryz.func15, Tryz.ntmps15
  go_wp2
  go_ret
  exact ⟨rfl, rfl⟩
theorem fault_nil (w : World) : Calls Tryz.prog 12 #[.pointer none] w fun e w' => e = .returned (.agg #[.int .i64 0, .string ⟨#[]⟩]) ∧ Below w.heap.size w w' := by
  go_enter Tryz.func12, Tryz.ntmps12
  go_wp2
  refine bodyPost_ret (v := .agg #[.int .i64 0, .string ⟨#[]⟩]) (by simp [results, Tryz.results12, go_sem]) rfl ⟨rfl, ?_⟩
  repeat (first | exact Below.refl _ _ | refine Below.drew ?_ | refine Below.alloc ?_ (by simp; try omega) _ | refine Below.setCell ?_ (by simp) _)
theorem work_nil (w : World) : Calls Tryz.prog 13 #[.pointer none] w fun e w' => e = .returned (.agg #[.int .i64 0, .int .i64 0, .int .i64 0]) ∧ Below w.heap.size w w' := by
  go_enter Tryz.func13, Tryz.ntmps13
  go_wp2
  refine bodyPost_ret (v := .agg #[.int .i64 0, .int .i64 0, .int .i64 0]) (by simp [results, Tryz.results13, go_sem]) rfl ⟨rfl, ?_⟩
  repeat (first | exact Below.refl _ _ | refine Below.drew ?_ | refine Below.alloc ?_ (by simp; try omega) _ | refine Below.setCell ?_ (by simp) _)

theorem i64_and7 (n : Int) : bits .and .i64 n 7 = n % 8 := by
  have h7 : (BitVec.ofInt 64 7).toNat = 2 ^ 3 - 1 := by decide
  have key : (BitVec.ofInt 64 n &&& BitVec.ofInt 64 7).toNat = (n % ((2 ^ 64 : Nat) : Int)).toNat % 2 ^ 3 := by
    rw [BitVec.toNat_and, BitVec.toNat_ofInt, h7, Nat.and_two_pow_sub_one_eq_mod]
  show IntKind.i64.wrap ((BitVec.ofInt 64 n &&& BitVec.ofInt 64 7).toNat : Nat) = n % 8
  rw [key, IntKind.wrap_i64]
  omega
theorem land7 (k : Int) : 0 ≤ bits .and .i64 k 7 ∧ bits .and .i64 k 7 ≤ 7 := by
  rw [i64_and7]
  omega

theorem walk (k : Int) (nm : ByteArray) (a : Option Addr) (l c : Nat) (n t : Int) (w : World) :
    Calls Tryz.prog 3 #[.agg #[.int .i64 k, .string nm, .slice a l c, .int .i64 n, .int .i64 t]] w fun e w' => e = .returned (.bool true) ∧ Below w.heap.size w w' := by
  go_enter Tryz.func3, Tryz.ntmps3
  go_wp2_with fail
  refine (head_walk _).mono ?_
  rintro e w1 ⟨rfl, hb1⟩
  have hz1 := hb1.size
  simp only [World.size_alloc] at hb1 hz1
  obtain ⟨hc1, hf1⟩ := bcell hb1
  have c0 : w1.cell? ⟨w.heap.size, 0, none⟩ = some (.int .i64 k) := by rw [hc1 _ _ (by omega)]; simp [go_sem]
  have c1 : w1.cell? ⟨w.heap.size, 1, none⟩ = some (.string nm) := by rw [hc1 _ _ (by omega)]; simp [go_sem]
  have c2 : w1.cell? ⟨w.heap.size, 2, none⟩ = some (.slice a l c) := by rw [hc1 _ _ (by omega)]; simp [go_sem]
  have c3 : w1.cell? ⟨w.heap.size, 3, none⟩ = some (.int .i64 n) := by rw [hc1 _ _ (by omega)]; simp [go_sem]
  have c4 : w1.cell? ⟨w.heap.size, 4, none⟩ = some (.int .i64 t) := by rw [hc1 _ _ (by omega)]; simp [go_sem]
  have z0 : w1.frozen? ⟨w.heap.size, 0, none⟩ = false := by rw [hf1 _ _ (by omega)]; simp [go_sem]
  have hB : Below w.heap.size w w1 := ((Below.refl _ _).alloc (Nat.le_refl _) _).trans (hb1.mono (by omega))
  clear hc1 hf1 hb1
  go_wp2_with fail
  refine (do_nil _ _ _ _ _ _).mono ?_
  rintro e w2 ⟨rfl, hb2⟩
  have hz2 := hb2.size
  obtain ⟨hc2, hf2⟩ := bcell hb2
  have d0 : w2.cell? ⟨w.heap.size, 0, none⟩ = some (.int .i64 k) := by rw [hc2 _ _ (by omega)]; exact c0
  have d1 : w2.cell? ⟨w.heap.size, 1, none⟩ = some (.string nm) := by rw [hc2 _ _ (by omega)]; exact c1
  have d2 : w2.cell? ⟨w.heap.size, 2, none⟩ = some (.slice a l c) := by rw [hc2 _ _ (by omega)]; exact c2
  have d3 : w2.cell? ⟨w.heap.size, 3, none⟩ = some (.int .i64 n) := by rw [hc2 _ _ (by omega)]; exact c3
  have d4 : w2.cell? ⟨w.heap.size, 4, none⟩ = some (.int .i64 t) := by rw [hc2 _ _ (by omega)]; exact c4
  have y0 : w2.frozen? ⟨w.heap.size, 0, none⟩ = false := by rw [hf2 _ _ (by omega)]; exact z0
  have hB2 : Below w.heap.size w w2 := hB.trans (hb2.mono (by omega))
  clear hc2 hf2 hb2 c0 c1 c2 c3 c4 z0 hB
  go_wp2_with fail
  refine (nil17 _).mono ?_
  rintro e w3 ⟨rfl, hb3⟩
  have hz3 := hb3.size
  obtain ⟨hc3, hf3⟩ := bcell hb3
  have e0 : w3.cell? ⟨w.heap.size, 0, none⟩ = some (.int .i64 k) := by rw [hc3 _ _ (by omega)]; exact d0
  have e1 : w3.cell? ⟨w.heap.size, 1, none⟩ = some (.string nm) := by rw [hc3 _ _ (by omega)]; exact d1
  have e2 : w3.cell? ⟨w.heap.size, 2, none⟩ = some (.slice a l c) := by rw [hc3 _ _ (by omega)]; exact d2
  have e3 : w3.cell? ⟨w.heap.size, 3, none⟩ = some (.int .i64 n) := by rw [hc3 _ _ (by omega)]; exact d3
  have e4 : w3.cell? ⟨w.heap.size, 4, none⟩ = some (.int .i64 t) := by rw [hc3 _ _ (by omega)]; exact d4
  have x0 : w3.frozen? ⟨w.heap.size, 0, none⟩ = false := by rw [hf3 _ _ (by omega)]; exact y0
  have hB3 : Below w.heap.size w w3 := hB2.trans (hb3.mono (by omega))
  clear hc3 hf3 hb3 d0 d1 d2 d3 d4 y0 hB2
  go_wp2_with fail
  obtain ⟨K, hK⟩ : ∃ K, wrap64 (9 + bits BinOp.and IntKind.i64 k 7) = K := ⟨_, rfl⟩
  have h9 : 9 ≤ K := by
    have := land7 k
    rw [← hK]; unfold wrap64; omega
  rw [hK]
  clear hK
  have f0 : (w3.setCell ⟨w.heap.size, 0, none⟩ (.int .i64 K)).cell? ⟨w.heap.size, 0, none⟩ = some (.int .i64 K) := World.cell?_setCell_same' _ _ _ (by rw [e0]; rfl)
  have f1 : (w3.setCell ⟨w.heap.size, 0, none⟩ (.int .i64 K)).cell? ⟨w.heap.size, 1, none⟩ = some (.string nm) := by simp [go_sem, e1]
  have f2 : (w3.setCell ⟨w.heap.size, 0, none⟩ (.int .i64 K)).cell? ⟨w.heap.size, 2, none⟩ = some (.slice a l c) := by simp [go_sem, e2]
  have f3 : (w3.setCell ⟨w.heap.size, 0, none⟩ (.int .i64 K)).cell? ⟨w.heap.size, 3, none⟩ = some (.int .i64 n) := by simp [go_sem, e3]
  have f4 : (w3.setCell ⟨w.heap.size, 0, none⟩ (.int .i64 K)).cell? ⟨w.heap.size, 4, none⟩ = some (.int .i64 t) := by simp [go_sem, e4]
  have hB4 : Below w.heap.size w (w3.setCell ⟨w.heap.size, 0, none⟩ (.int .i64 K)) := hB3.setCell (Nat.le_refl _) _
  have hz4 : w.heap.size + 1 ≤ (w3.setCell ⟨w.heap.size, 0, none⟩ (.int .i64 K)).heap.size := by simp [World.setCell]; omega
  generalize w3.setCell ⟨w.heap.size, 0, none⟩ (.int .i64 K) = w4 at *
  clear e0 e1 e2 e3 e4 x0 hB3 hz1 hz2 hz3
  go_region_held3 (fun w' => w'.cell? ⟨w.heap.size, 0, none⟩ = some (.int .i64 K) ∧ w'.cell? ⟨w.heap.size, 1, none⟩ = some (.string nm) ∧ w'.cell? ⟨w.heap.size, 2, none⟩ = some (.slice a l c) ∧ w'.cell? ⟨w.heap.size, 3, none⟩ = some (.int .i64 n) ∧ w'.cell? ⟨w.heap.size, 4, none⟩ = some (.int .i64 t))
    (first | exact ⟨f0, f1, f2, f3, f4⟩ | exact ⟨g0, g1, g2, g3, g4⟩ | exact ⟨i0, i1, i2, i3, i4⟩ | go_keep)
    (first
      | (go_at_call 10; refine (new_walk _ _).mono ?_; rintro e w5 ⟨rfl, hb5⟩
         have g0 : w5.cell? ⟨w.heap.size, 0, none⟩ = some (.int .i64 K) := ((bcell hb5).1 _ _ hz4).trans f0
         have g1 : w5.cell? ⟨w.heap.size, 1, none⟩ = some (.string nm) := ((bcell hb5).1 _ _ hz4).trans f1
         have g2 : w5.cell? ⟨w.heap.size, 2, none⟩ = some (.slice a l c) := ((bcell hb5).1 _ _ hz4).trans f2
         have g3 : w5.cell? ⟨w.heap.size, 3, none⟩ = some (.int .i64 n) := ((bcell hb5).1 _ _ hz4).trans f3
         have g4 : w5.cell? ⟨w.heap.size, 4, none⟩ = some (.int .i64 t) := ((bcell hb5).1 _ _ hz4).trans f4
         have hB5 : Below w.heap.size w w5 := hB4.drew.trans (hb5.mono (by simp; omega))
         have hz5 : w.heap.size + 1 ≤ w5.heap.size := Nat.le_trans hz4 hb5.size
         clear hb5)
      | (go_at_call 8; refine (do_other _ _ _ _ _ _ _ h9).mono ?_; rintro e w6 ⟨rfl, hb6⟩
         have i0 : w6.cell? ⟨w.heap.size, 0, none⟩ = some (.int .i64 K) := ((bcell hb6).1 _ _ hz5).trans g0
         have i1 : w6.cell? ⟨w.heap.size, 1, none⟩ = some (.string nm) := ((bcell hb6).1 _ _ hz5).trans g1
         have i2 : w6.cell? ⟨w.heap.size, 2, none⟩ = some (.slice a l c) := ((bcell hb6).1 _ _ hz5).trans g2
         have i3 : w6.cell? ⟨w.heap.size, 3, none⟩ = some (.int .i64 n) := ((bcell hb6).1 _ _ hz5).trans g3
         have i4 : w6.cell? ⟨w.heap.size, 4, none⟩ = some (.int .i64 t) := ((bcell hb6).1 _ _ hz5).trans g4
         have hB6 : Below w.heap.size w w6 := hB5.trans (hb6.mono (by omega))
         skip))
  clear i0 i1 i2 i3 i4 f0 f1 f2 f3 f4
  go_wp2_with (first | (go_at_call 11; refine (sources_nil _).mono ?_; rintro e w' ⟨rfl, rfl⟩) | (go_at_call 12; refine (fault_nil _).mono ?_; rintro e w7 ⟨rfl, hb7⟩) | (go_at_call 13; refine (work_nil _).mono ?_; rintro e w8 ⟨rfl, hb8⟩) | (go_at_call 14; refine (down_nil _).mono ?_; rintro e w' ⟨rfl, rfl⟩) | (go_at_call 15; refine (used_nil _).mono ?_; rintro e w' ⟨rfl, rfl⟩))
  go_ret
  exact ⟨rfl, (hB6.trans (hb7.mono (Nat.le_trans (Nat.le_of_succ_le hz5) hb6.size))).trans (hb8.mono (Nat.le_trans (Nat.le_trans (Nat.le_of_succ_le hz5) hb6.size) hb7.size))⟩

#print axioms walk
end Go.Proofs.YtibknkdgdfdkiaaGreatDoor.hubNil
