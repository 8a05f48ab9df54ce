/-
  hub.Script at the texts that HubForms reads: what strings.Split gives, and what step answers at each line, come in as hypotheses.
-/
import Derived.Test.YtibknkdgdfdkiaaGreatDoorProg
import Derived.WalkKit
import Derived.WalkLawsBesides
import Derived.WalkSpells
import Derived.Handy
import Derived.Outline
import Derived.Laws.AppendOwn
import Derived.OwnWalk
import Derived.Deep.AppendLies
import Derived.Lib.Hide
namespace Go.Proofs.YtibknkdgdfdkiaaGreatDoor.hubForms
open Go.RowKit

theorem scell {W w1 : World} {B : Nat} (hb : Below B W w1) : (∀ b o, b < B → w1.cell? ⟨b, o, none⟩ = W.cell? ⟨b, o, none⟩) ∧ (∀ b o, b < B → w1.frozen? ⟨b, o, none⟩ = W.frozen? ⟨b, o, none⟩) :=
  ⟨fun b o h => hb.cell (p := ⟨b, o, none⟩) h, fun b o h => hb.frozen (p := ⟨b, o, none⟩) h⟩
/-- What strings.Split gives. -/
def Lines (text : ByteArray) (ls : List ByteArray) : Prop := ∀ w : World, w.ShapedOpen Tryz.prog → Calls Tryz.prog 46 #[.string text, .string ⟨#[10]⟩] w fun e w' =>
  e = .returned (.slice (some ⟨w.heap.size, 0, none⟩) ls.length ls.length) ∧ w' = w.alloc (.cells (ls.map Value.string).toArray 9)
/-- What step answers at a line, in every memory behind w. -/
def Steps (w : World) (l : ByteArray) (v : Value) (b : Bool) : Prop := ∀ W : World, Below w.heap.size w W → Calls Tryz.prog 47 #[.string l] W fun e w' => e = .returned (.tuple #[v, .bool b]) ∧ Below W.heap.size W w'

theorem script_nil (text : ByteArray) (w : World) (hsh : w.ShapedOpen Tryz.prog) (hl : Lines text [⟨#[]⟩]) :
    Calls Tryz.prog 16 #[.string text] w fun e w' => e = .returned (.tuple #[.slice none 0 0, .int .i64 0]) ∧ Below w.heap.size w w' := by
  go_enter Tryz.func16, Tryz.ntmps16
  go_wp2_with fail
  refine (hl _ hsh).mono ?_
  rintro e w1 ⟨rfl, rfl⟩
  simp only [List.map_cons, List.map_nil, List.length_cons, List.length_nil, Nat.zero_add]
  go_wp2_with fail
  refine wp_loop_rounds 1 ?_
  rw [rounds_succ]
  go_wp2_with fail
  go_ret2
  exact ⟨rfl, (Below.refl _ _).alloc (Nat.le_refl _) _⟩
theorem script_open (text l1 l2 : ByteArray) (w : World) (hsh : w.ShapedOpen Tryz.prog) (h2 : (l2.toList == []) = false) (hl : Lines text [l1, l2]) :
    Calls Tryz.prog 16 #[.string text] w fun e w' => e = .returned (.tuple #[.slice none 0 0, .int .i64 2]) ∧ Below w.heap.size w w' := by
  go_enter Tryz.func16, Tryz.ntmps16
  go_wp2_with fail
  refine (hl _ hsh).mono ?_
  rintro e w1 ⟨rfl, rfl⟩
  simp only [List.map_cons, List.map_nil, List.length_cons, List.length_nil, Nat.zero_add]
  go_wp2_with fail
  go_ret2
  exact ⟨rfl, (Below.refl _ _).alloc (Nat.le_refl _) _⟩
theorem info24 : (Tryz.prog.info? 24).map (fun i => (i.zero, i.size, i.bytes)) = some (some (.agg #[.int .i64 0, .string ⟨#[]⟩, .slice none 0 0, .int .i64 0, .int .i64 0]), 5, 64) := by kernel_rfl
theorem below_grown {B : Nat} {W w w' : World} {row : Option Nat} (h : Below B W w) (hg : w.grownBy w' row) (hB : B ≤ w.heap.size) (hr : ∀ j, row = some j → B ≤ j) : Below B W w' :=
  ⟨hg.os.trans h.os, hg.tape.trans h.tape, hg.output.trans h.output, Nat.le_trans h.size hg.size, fun k hk => (hg.block k (Nat.lt_of_lt_of_le hk hB) (fun e => absurd (hr k e.symm) (Nat.not_le_of_lt hk))).trans (h.block k hk)⟩
set_option maxRecDepth 100000 in
theorem script_bad (text l1 l2 : ByteArray) (k : Int) (w : World) (hsh : w.ShapedOpen Tryz.prog) (hl : Lines text [l1, l2, ⟨#[]⟩])
    (h1 : Steps w l1 (.agg #[.int .i64 k, .string ⟨#[]⟩, .slice none 0 0, .int .i64 0, .int .i64 0]) true)
    (h2 : Steps w l2 (.agg #[.int .i64 0, .string ⟨#[]⟩, .slice none 0 0, .int .i64 0, .int .i64 0]) false) :
    Calls Tryz.prog 16 #[.string text] w fun e w' => e = .returned (.tuple #[.slice none 0 0, .int .i64 2]) ∧ Below w.heap.size w w' := by
  obtain ⟨i0, hi, hz0, hz1, hz2⟩ := info_parts info24
  go_enter Tryz.func16, Tryz.ntmps16
  go_wp2_with fail
  refine (hl _ hsh).mono ?_
  rintro e w1 ⟨rfl, rfl⟩
  simp only [List.map_cons, List.map_nil, List.length_cons, List.length_nil, Nat.zero_add, Nat.reduceAdd]
  go_wp2_with fail
  refine wp_loop_rounds 4 ?_
  rw [rounds_succ]
  go_wp2_with fail
  refine (h1 _ ((Below.refl _ _).alloc (Nat.le_refl _) _)).mono ?_
  rintro e w2 ⟨rfl, hb2⟩
  have hz2' := hb2.size
  obtain ⟨hc2, hf2⟩ := scell hb2
  simp only [World.size_alloc] at hc2 hz2'
  have p1 : w2.cell? ⟨w.heap.size, 1, none⟩ = some (.string l2) := by rw [hc2 _ _ (by omega)]; simp [go_sem]
  have hB2 : Below w.heap.size w w2 := ((Below.refl _ _).alloc (Nat.le_refl _) _).trans (hb2.mono (by simp))
  clear hc2 hf2 hb2
  have HB := Lib.hid hB2
  clear hB2
  have H2 := Lib.hid h2
  clear h2 h1 hl
  go_wp2_with (at_builtin; refine wpList_append_own _ rfl (.tmp 36) (.tmp 38) 44 rfl w.heap.size 24 i0 (.agg #[.int .i64 0, .string ⟨#[]⟩, .slice none 0 0, .int .i64 0, .int .i64 0]) 5 64 Tryz.underlying44 hi hz0 hz1 hz2 rfl (by decide) _ 0 [] rfl (World.ownsRow_nil _ _ _ _) ⟨w2.heap.size + 1, 0, none⟩ 1 1 [.int .i64 k, .string ⟨#[]⟩, .slice none 0 0, .int .i64 0, .int .i64 0] rfl rfl ?c1 ?c2 ?c3 ?c4 ?c5 ?_)
  case c1 =>
    intro j u hj
    match j, hj with
    | 0, hj => simp at hj; subst hj; simp [Addr.add, go_sem]
    | 1, hj => simp at hj; subst hj; simp [Addr.add, go_sem]
    | 2, hj => simp at hj; subst hj; simp [Addr.add, go_sem]
    | 3, hj => simp at hj; subst hj; simp [Addr.add, go_sem]
    | 4, hj => simp at hj; subst hj; simp [Addr.add, go_sem]
    | n + 5, hj => simp at hj
  case c2 => intro u hu; simp at hu; rcases hu with rfl | rfl | rfl | rfl <;> rfl
  case c3 => decide
  case c4 => decide
  case c5 => have := HB.out.size; simp; omega
  intro v' w3 hown hgrow _
  have hg3 : Below w.heap.size w w3 := below_grown ((HB.out.alloc (by have := HB.out.size; omega) _).alloc (by have := HB.out.size; simp; omega) _) hgrow (by have := HB.out.size; simp; omega) (fun j hj => by cases hj)
  have p3 : w3.cell? ⟨w.heap.size, 1, none⟩ = some (.string l2) := by
    rw [hgrow.cell_far _ (by simp; omega) (by simp [Value.ownBlock]), World.cell?_alloc_past _ _ _ (by simp; omega), World.cell?_alloc_past _ _ _ (by omega)]
    exact p1
  have HG := Lib.hid hg3
  clear hg3 hgrow hown
  go_wp2_with fail
  rw [rounds_succ]
  go_wp2_with fail
  refine (H2.out _ HG.out).mono ?_
  rintro e w4 ⟨rfl, hb4⟩
  have HD := Lib.hid (HG.out.trans (hb4.mono HG.out.size))
  clear hb4
  go_wp2_with fail
  go_ret2
  refine ⟨rfl, HD.out.alloc (by have := HD.out.size; omega) _⟩

/-- What step answers at a line 'put q r': the record, whose bytes lie in a new block. -/
def Puts (w : World) (l q d : ByteArray) : Prop := ∀ W : World, Below w.heap.size w W → Calls Tryz.prog 47 #[.string l] W fun e w' =>
  ∃ g v, e = .returned (.tuple #[.agg #[.int .i64 1, .string q, .slice (some ⟨g, 0, none⟩) d.size v, .int .i64 0, .int .i64 0], .bool true]) ∧ W.heap.size ≤ g ∧ g < w'.heap.size ∧
    (∀ j, j < d.size → w'.cell? ⟨g, j, none⟩ = some (.int .u8 (d.data.toList.getD j 0).toNat)) ∧ Below W.heap.size W w'
theorem grown_below {w w' : World} (h : Below w.heap.size w w') : w.grownBy w' none := ⟨h.os, h.tape, h.output, h.size, fun i hi _ => h.block i hi⟩
set_option maxHeartbeats 1000000 in
set_option maxRecDepth 100000 in
theorem script_two (text l1 l2 q1 d1 q2 d2 : ByteArray) (w : World) (hsh : w.ShapedOpen Tryz.prog) (hl : Lines text [l1, l2, ⟨#[]⟩]) (h1 : Puts w l1 q1 d1) (h2 : Puts w l2 q2 d2) :
    Calls Tryz.prog 16 #[.string text] w fun e w' => ∃ A cap g1 v1 g2 v2, e = .returned (.tuple #[.slice (some ⟨A, 0, none⟩) 2 cap, .int .i64 0]) ∧
      w'.ownsRow w.heap.size 24 5 (.slice (some ⟨A, 0, none⟩) 2 cap) 2 [.int .i64 1, .string q1, .slice (some ⟨g1, 0, none⟩) d1.size v1, .int .i64 0, .int .i64 0, .int .i64 1, .string q2, .slice (some ⟨g2, 0, none⟩) d2.size v2, .int .i64 0, .int .i64 0] ∧
      (∀ j, j < d2.size → w'.cell? ⟨g2, j, none⟩ = some (.int .u8 (d2.data.toList.getD j 0).toNat)) ∧ Below w.heap.size w w' := by
  obtain ⟨i0, hi, hz0, hz1, hz2⟩ := info_parts info24
  go_enter Tryz.func16, Tryz.ntmps16
  go_wp2_with fail
  refine (hl _ hsh).mono ?_
  rintro e w1 ⟨rfl, rfl⟩
  simp only [List.map_cons, List.map_nil, List.length_cons, List.length_nil, Nat.zero_add, Nat.reduceAdd]
  go_wp2_with fail
  refine wp_loop_rounds 4 ?_
  rw [rounds_succ]
  go_wp2_with fail
  refine (h1 _ ((Below.refl _ _).alloc (Nat.le_refl _) _)).mono ?_
  rintro e w2 ⟨g1, v1, rfl, _, _, _, hb2⟩
  have hz2' := hb2.size
  obtain ⟨hc2, hf2⟩ := scell hb2
  simp only [World.size_alloc] at hc2 hz2'
  have p1 : w2.cell? ⟨w.heap.size, 1, none⟩ = some (.string l2) := by rw [hc2 _ _ (by omega)]; simp [go_sem]
  have hB2 : Below w.heap.size w w2 := ((Below.refl _ _).alloc (Nat.le_refl _) _).trans (hb2.mono (by simp))
  clear hc2 hf2 hb2
  have HB := Lib.hid hB2
  clear hB2
  have H2 := Lib.hid h2
  clear h2 h1 hl
  go_wp2_with (at_builtin; refine wpList_append_own _ rfl (.tmp 36) (.tmp 38) 44 rfl w.heap.size 24 i0 (.agg #[.int .i64 0, .string ⟨#[]⟩, .slice none 0 0, .int .i64 0, .int .i64 0]) 5 64 Tryz.underlying44 hi hz0 hz1 hz2 rfl (by decide) _ 0 [] rfl (World.ownsRow_nil _ _ _ _) ⟨w2.heap.size + 1, 0, none⟩ 1 1 [.int .i64 1, .string q1, .slice (some ⟨g1, 0, none⟩) d1.size v1, .int .i64 0, .int .i64 0] rfl rfl ?c1 ?c2 ?c3 ?c4 ?c5 ?_)
  case c1 =>
    intro j u hj
    match j, hj with
    | 0, hj => simp at hj; subst hj; simp [Addr.add, go_sem]
    | 1, hj => simp at hj; subst hj; simp [Addr.add, go_sem]
    | 2, hj => simp at hj; subst hj; simp [Addr.add, go_sem]
    | 3, hj => simp at hj; subst hj; simp [Addr.add, go_sem]
    | 4, hj => simp at hj; subst hj; simp [Addr.add, go_sem]
    | n + 5, hj => simp at hj
  case c2 => intro u hu; simp at hu; rcases hu with rfl | rfl | rfl | rfl <;> rfl
  case c3 => decide
  case c4 => decide
  case c5 => have := HB.out.size; simp; omega
  intro v' w3 hown hgrow _
  have hg3 : Below w.heap.size w w3 := below_grown ((HB.out.alloc (by have := HB.out.size; omega) _).alloc (by have := HB.out.size; simp; omega) _) hgrow (by have := HB.out.size; simp; omega) (fun j hj => by cases hj)
  have p3 : w3.cell? ⟨w.heap.size, 1, none⟩ = some (.string l2) := by
    rw [hgrow.cell_far _ (by simp; omega) (by simp [Value.ownBlock]), World.cell?_alloc_past _ _ _ (by simp; omega), World.cell?_alloc_past _ _ _ (by omega)]
    exact p1
  have HG := Lib.hid hg3
  have HO := Lib.hid hown
  clear hg3 hgrow hown
  go_wp2_with fail
  rw [rounds_succ]
  go_wp2_with fail
  refine (H2.out _ HG.out).mono ?_
  rintro e w4 ⟨g2, v2, rfl, hge, hlt, hcs, hb4⟩
  have HD := Lib.hid (HG.out.trans (hb4.mono HG.out.size))
  have HP := Lib.hid (HO.out.kept (grown_below hb4) (by cases h : v'.ownBlock with | none => exact .inl rfl | some k => exact .inr (by simp)))
  have HL := Lib.hid (fun k hk => (HO.out.lt k hk).2 : ∀ k, v'.ownBlock = some k → k < w3.heap.size)
  have HC := Lib.hid hcs
  have HN := Lib.hid hge
  have HT := Lib.hid hlt
  clear hb4 HO hcs hge hlt
  go_wp2_with (at_builtin; refine wpList_append_own _ rfl (.tmp 36) (.tmp 38) 44 rfl w.heap.size 24 i0 (.agg #[.int .i64 0, .string ⟨#[]⟩, .slice none 0 0, .int .i64 0, .int .i64 0]) 5 64 Tryz.underlying44 hi hz0 hz1 hz2 rfl (by decide) _ 1 _ rfl ((HP.out.alloc _).alloc _) ⟨w4.heap.size + 1, 0, none⟩ 1 1 [.int .i64 1, .string q2, .slice (some ⟨g2, 0, none⟩) d2.size v2, .int .i64 0, .int .i64 0] rfl rfl ?c1 ?c2 ?c3 ?c4 ?c5 ?_)
  case c1 =>
    intro j u hj
    match j, hj with
    | 0, hj => simp at hj; subst hj; simp [Addr.add, go_sem]
    | 1, hj => simp at hj; subst hj; simp [Addr.add, go_sem]
    | 2, hj => simp at hj; subst hj; simp [Addr.add, go_sem]
    | 3, hj => simp at hj; subst hj; simp [Addr.add, go_sem]
    | 4, hj => simp at hj; subst hj; simp [Addr.add, go_sem]
    | n + 5, hj => simp at hj
  case c2 => intro u hu; simp at hu; rcases hu with rfl | rfl | rfl | rfl <;> rfl
  case c3 => decide
  case c4 => decide
  case c5 => have := HD.out.size; simp; omega
  intro v5 w5 hown5 hgrow5 _
  have hg5 : Below w.heap.size w w5 := below_grown ((HD.out.alloc (by have := HD.out.size; omega) _).alloc (by have := HD.out.size; simp; omega) _) hgrow5 (by have := HD.out.size; simp; omega) (fun j hj => (HP.out.lt j hj).1)
  have hc5 : ∀ j, j < d2.size → w5.cell? ⟨g2, j, none⟩ = some (.int .u8 (d2.data.toList.getD j 0).toNat) := by
    intro j hj
    have a1 := HN.out
    have a2 := HT.out
    rw [hgrow5.cell_far _ (by simp; omega) (fun e => by have := HL.out _ e.symm; simp at this; omega), World.cell?_alloc_past _ _ _ (by simp; omega), World.cell?_alloc_past _ _ _ (by omega)]
    exact HC.out j hj
  have HQ := Lib.hid hg5
  have HR := Lib.hid hc5
  have HS := Lib.hid hown5
  clear hg5 hc5 hown5 hgrow5
  go_wp2_with fail
  rw [rounds_succ]
  go_wp2_with fail
  go_ret2
  obtain ⟨A, cap, hA, _⟩ := HS.out.form (by decide)
  refine ⟨A, cap, g1, v1, g2, v2, ?_, ?_, HR.out, HQ.out⟩
  · exact congrArg (fun z => Ending.returned (Value.tuple #[z, .int .i64 0])) hA
  · have := HS.out
    rw [hA] at this
    exact this
end Go.Proofs.YtibknkdgdfdkiaaGreatDoor.hubForms
