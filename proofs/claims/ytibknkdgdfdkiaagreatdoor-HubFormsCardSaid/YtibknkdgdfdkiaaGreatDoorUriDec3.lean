/-
  uri.Decode at the three texts that HubForms decodes: the empty one, '%4' and 'a%20b'.
-/
import Derived.Test.YtibknkdgdfdkiaaGreatDoorUriHex
import Derived.WalkKit
import Derived.WalkLawsBesides
import Derived.WalkSpells
import Derived.Outline
import Derived.Deep.RegionLaw
import Derived.Deep.RegionHeld3
import Derived.Deep.DrawnRows
import Derived.Laws.IdiomStrings
import Derived.Laws.AppendOwn
import Derived.OwnWalk
import Derived.Deep.AppendLies
import Derived.Lib.Hide
import Derived.Deep.Cut
namespace Go.Proofs.YtibknkdgdfdkiaaGreatDoor.uriDecode
open Go.RowKit

theorem underlying9 : Tryz.prog.underlying 9 = some .string := by kernel_rfl
theorem step_append_own {P : Program} {ops : Array Oper} {o : Oper} {a : Act} {w : World} {K : Act → World → Prop} {Q : Exit → Act → World → Prop} {E : Prop}
    (hg : o.guard = none) (s x : Operand) (t : TypeId) (hop : o.op = Op.call { callee := Callee.builtin Builtin.append, args := #[s, x], argTypes := #[t, t] })
    (base : Nat) (e : TypeId) (i : TypeInfo) (z : Value) (size bytes : Nat) (ht : P.underlying t = some (.slice e)) (hi : P.info? e = some i) (hz : i.zero = some z)
    (hsize : i.size = size) (hby : i.bytes = bytes) (hzs : z.cells.size = size) (hsz : 0 < size)
    (v : Value) (n : Nat) (xs : List Value) (hs : a.eval s = v) (hown : w.ownsRow base e size v n xs)
    (ad : Addr) (m c : Nat) (news : List Value) (hx : a.eval x = .slice (some ad) m c) (hl : news.length = m * size) (hnews : ∀ j u, news[j]? = some u → w.cell? (ad.add j) = some u) (h1 : ∀ u ∈ news, u.oneCell' = true)
    (h63 : n + m ≤ maxLen) (hbytes : (n + m) * bytes ≤ 140737488355328) (hbase : base ≤ w.heap.size)
    (hK : ∀ v' w', w'.ownsRow base e size v' (n + m) (xs ++ news) → w.grownBy w' v.ownBlock → K (a.put o.dst v') w') :
    if Region.wanted o (yielded ops a.tmps) = true then Oper.wp P o a w K Q else E := by
  have hw : Region.wanted o (yielded ops a.tmps) = true := by simp [Region.wanted, hg]
  rw [if_pos hw]
  exact wp_append_own w s x t hop base e i z size bytes ht hi hz hsize hby hzs hsz v n xs hs hown ad m c news hx hl hnews h1 h63 hbytes hbase fun v' w' h2 h3 _ => hK v' w' h2 h3
theorem hex_lit (r v : Int) (h : decide (0 ≤ r ∧ r ≤ 1114111 ∧ hexv r = v) = true) (w : World) : Calls Tryz.prog 166 #[.int .i32 r] w fun e w' => e = .returned (.int .i64 v) ∧ w = w' := by
  obtain ⟨h0, h1, rfl⟩ := of_decide_eq_true h
  exact hex_any r h0 h1 w
theorem info5 : (Tryz.prog.info? 5).map (fun i => (i.zero, i.size, i.bytes)) = some (some (.int .u8 0), 1, 1) := by kernel_rfl
theorem underlying5 : Tryz.prog.underlying 5 = some (.int .u8) := by kernel_rfl
abbrev bv (b : UInt8) : Value := .int .u8 (b.toNat : Int)
theorem hex50 (w : World) : Calls Tryz.prog 166 #[.int .i32 50] w fun e w' => e = .returned (.int .i64 2) ∧ w = w' := hex_any 50 (by decide) (by decide) w
theorem hex48 (w : World) : Calls Tryz.prog 166 #[.int .i32 48] w fun e w' => e = .returned (.int .i64 0) ∧ w = w' := hex_any 48 (by decide) (by decide) w
theorem below_grown {B : Nat} {W w w' : World} {row : Option Nat} (h : Below B W w) (hg : w.grownBy w' row) (hB : B ≤ w.heap.size) (hr : ∀ j, row = some j → B ≤ j) : Below B W w' :=
  ⟨hg.os.trans h.os, hg.tape.trans h.tape, hg.output.trans h.output, Nat.le_trans h.size hg.size, fun k hk => (hg.block k (Nat.lt_of_lt_of_le hk hB) (fun e => absurd (hr k e.symm) (Nat.not_le_of_lt hk))).trans (h.block k hk)⟩
theorem run_string_owned {w : World} {base : Nat} {v : Value} {xs : List UInt8} (h : w.ownsRow base 5 1 v xs.length (xs.map bv)) : (convert 22 9 v).run Tryz.prog w = .ok (.string ⟨xs.toArray⟩) w := by
  obtain ⟨hl, ⟨rfl, h0⟩ | ⟨g, cap, cur, rfl, hb, hg, hn, hm, hc, ht⟩⟩ := h
  · obtain rfl : xs = [] := List.eq_nil_of_length_eq_zero h0
    rw [run_convert_bytes_string w 22 9 5 none 0 0 Tryz.underlying22 underlying5 underlying9]
    rfl
  · refine run_convert_bytes_back w 22 9 5 ⟨g, 0, none⟩ cap xs Tryz.underlying22 underlying5 underlying9 fun j hj => ?_
    have := (World.ownsRow.cells (w := w) (base := base) (e := 5) (size := 1) (v := .slice (some ⟨g, 0, none⟩) xs.length cap) (n := xs.length) (xs := xs.map bv) ⟨hl, .inr ⟨g, cap, cur, rfl, hb, hg, hn, hm, hc, ht⟩⟩ (g := g) rfl) j (bv xs[j]) (by simp [List.getElem?_eq_getElem hj])
    exact this
theorem dec_empty (w : World) : Calls Tryz.prog 95 #[.string ⟨#[]⟩] w fun e w' => e = .returned (.tuple #[.string ⟨#[]⟩, .int .i64 0]) ∧ Below w.heap.size w w' := by
  have hcv := run_string_owned (w := w) (base := w.heap.size) (v := .slice none 0 0) (xs := []) (World.ownsRow_nil w w.heap.size 5 1)
  go_enter Tryz.func95, Tryz.ntmps95
  go_wp2_with fail
  refine wp_loop_rounds 1 ?_
  rw [rounds_succ]
  go_wp2_with fail
  go_ret2
  exact ⟨rfl, Below.refl _ _⟩
theorem dec_bad (w : World) : Calls Tryz.prog 95 #[.string ⟨#[37, 52]⟩] w fun e w' => e = .returned (.tuple #[.string ⟨#[]⟩, .int .i64 2]) ∧ Below w.heap.size w w' := by
  go_enter Tryz.func95, Tryz.ntmps95
  go_wp2_with fail
  refine wp_loop_rounds 1 ?_
  rw [rounds_succ]
  go_wp2_with fail
  go_ret2
  exact ⟨rfl, Below.refl _ _⟩
attribute [local go_sem ↓] Go.wp_at_zero Go.wp_at_succ
set_option maxRecDepth 100000 in
set_option maxHeartbeats 4000000 in
theorem dec_space (w : World) : Calls Tryz.prog 95 #[.string ⟨#[97, 37, 50, 48, 98]⟩] w fun e w' => e = .returned (.tuple #[.string ⟨#[97, 32, 98]⟩, .int .i64 0]) ∧ Below w.heap.size w w' := by
  have x0 : ∀ w : World, (Instr.index 9 (.string ⟨#[97, 37, 50, 48, 98]⟩) (.int .i64 0)).run Tryz.prog w = .ok (.int .u8 97) w := fun _ => by kernel_rfl
  have x1 : ∀ w : World, (Instr.index 9 (.string ⟨#[97, 37, 50, 48, 98]⟩) (.int .i64 1)).run Tryz.prog w = .ok (.int .u8 37) w := fun _ => by kernel_rfl
  have x2 : ∀ w : World, (Instr.index 9 (.string ⟨#[97, 37, 50, 48, 98]⟩) (.int .i64 2)).run Tryz.prog w = .ok (.int .u8 50) w := fun _ => by kernel_rfl
  have x3 : ∀ w : World, (Instr.index 9 (.string ⟨#[97, 37, 50, 48, 98]⟩) (.int .i64 3)).run Tryz.prog w = .ok (.int .u8 48) w := fun _ => by kernel_rfl
  have x4 : ∀ w : World, (Instr.index 9 (.string ⟨#[97, 37, 50, 48, 98]⟩) (.int .i64 4)).run Tryz.prog w = .ok (.int .u8 98) w := fun _ => by kernel_rfl
  obtain ⟨i0, hi, hz0, hz1, hz2⟩ := info_parts info5
  go_enter Tryz.func95, Tryz.ntmps95
  go_wp2_with fail
  refine wp_loop_rounds 4 ?_
  rw [rounds_succ]
  go_wp2_with (at_builtin; refine wpList_append_own _ rfl (.tmp 16) (.tmp 20) 22 rfl w.heap.size 5 i0 (.int .u8 0) 1 1 Tryz.underlying22 hi hz0 hz1 hz2 rfl (by decide) _ 0 [] rfl (World.ownsRow_nil _ _ _ _) ⟨w.heap.size, 0, none⟩ 1 1 [.int .u8 97] rfl rfl ?c1 ?c2 ?c3 ?c4 ?c5 ?_)
  case c1 =>
    intro j u hj
    match j, hj with
    | 0, hj => simp at hj; subst hj; simp [Addr.add]
  case c2 => intro u hu; simp at hu; subst hu; rfl
  case c3 => decide
  case c4 => decide
  case c5 => simp
  intro v2 w2 hown hgrow _
  have hB : Below w.heap.size w w2 := below_grown ((Below.refl _ _).alloc (Nat.le_refl _) _) hgrow (by simp) (fun j hj => by cases hj)
  have HB := Lib.hid hB
  have HO := Lib.hid hown
  clear hB hown hgrow
  go_wp2_with fail
  rw [rounds_succ]
  go_wp2_with fail
  refine (hex50 _).mono ?_
  rintro e w3 ⟨rfl, rfl⟩
  go_wp2_with fail
  refine (hex48 _).mono ?_
  rintro e w3 ⟨rfl, rfl⟩
  go_upto_region 9 with (fail)
  go_region_held3 (fun _ => True) (trivial) (first
    | (go_at_call 166; refine (hex_lit _ 2 (by rfl) _).mono ?_; rintro e w' ⟨rfl, rfl⟩)
    | (go_at_call 166; refine (hex_lit _ 0 (by rfl) _).mono ?_; rintro e w' ⟨rfl, rfl⟩)
    | (refine step_append_own rfl (.tmp 45) (.tmp 61) 22 rfl w.heap.size 5 i0 (.int .u8 0) 1 1 Tryz.underlying22 hi hz0 hz1 hz2 rfl (by decide) v2 1 [.int .u8 97] (by rfl) (HO.out.drew.alloc _) ⟨w2.heap.size, 0, none⟩ 1 1 [.int .u8 32] (by rfl) rfl (by intro j u hj; match j, hj with | 0, hj => (simp at hj; subst hj; simp [Addr.add]; rfl)) (by intro u hu; simp at hu; subst hu; rfl) (by decide) (by decide) (by have := HB.out.size; simp; omega) ?_; intro v' w' hown' hgrow))
  all_goals
    have hB3 : Below w.heap.size w w' := below_grown ((HB.out.alloc HB.out.size _).drew) hgrow (by have := HB.out.size; simp; omega) (fun j hj => (HO.out.lt j hj).1)
    have HB3 := Lib.hid hB3
    have HO3 := Lib.hid hown'
    clear hB3 hown' hgrow HB HO
    go_wp2_with fail
    rw [rounds_succ]
    go_wp2_with (at_builtin; refine wpList_append_own _ rfl (.tmp 16) (.tmp 20) 22 rfl w.heap.size 5 i0 (.int .u8 0) 1 1 Tryz.underlying22 hi hz0 hz1 hz2 rfl (by decide) _ 2 _ rfl (HO3.out.alloc _) ⟨w'.heap.size, 0, none⟩ 1 1 [.int .u8 98] rfl rfl ?c1 ?c2 ?c3 ?c4 ?c5 ?_)
    case c1 =>
      intro j u hj
      match j, hj with
      | 0, hj => simp at hj; subst hj; simp [Addr.add]
    case c2 => intro u hu; simp at hu; subst hu; rfl
    case c3 => decide
    case c4 => decide
    case c5 => have := HB3.out.size; simp; omega
    intro v5 w5 hown5 hgrow5 _
    have hB5 : Below w.heap.size w w5 := below_grown (HB3.out.alloc HB3.out.size _) hgrow5 (by have := HB3.out.size; simp; omega) (fun j hj => (HO3.out.lt j hj).1)
    have hcv := run_string_owned (w := w5) (base := w.heap.size) (v := v5) (xs := [97, 32, 98]) hown5
    have HB5 := Lib.hid hB5
    clear hB5 hown5 hgrow5 HB3 HO3
    go_wp2_with fail
    rw [rounds_succ]
    go_wp2_with fail
    go_ret2
    exact ⟨rfl, HB5.out⟩
end Go.Proofs.YtibknkdgdfdkiaaGreatDoor.uriDecode
