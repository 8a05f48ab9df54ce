/-
  HubForms: the contracts put together: what strings.Split and strings.SplitN give at its texts, what step answers at its lines; then the whole walk, over what the memory must hold.
-/
import Derived.Test.YtibknkdgdfdkiaaGreatDoorHubFormsW
import Derived.Test.YtibknkdgdfdkiaaGreatDoorHubStepC
import Derived.Test.YtibknkdgdfdkiaaGreatDoorHubNumber
import Derived.Test.YtibknkdgdfdkiaaGreatDoorUriDec3
import Derived.ChangeAgain
import Derived.Deep.Onto
namespace Go.Proofs.YtibknkdgdfdkiaaGreatDoor.hubForms
open Go.RowKit Go.Proofs.YtibknkdgdfdkiaaGreatDoor.SplitLaw

theorem shaped_below {P : Program} {w W : World} (h : w.ShapedOpen P) (hB : Below w.heap.size w W) : W.ShapedOpen P :=
  h.keptBut (may := fun _ => False) ((World.keptBut_refl w _).congr hB.os hB.output hB.block) (fun _ f => f.elim)
/-- What the memory must hold. -/
structure Mem (w : World) : Prop where
  words : WordsAt w
  h0 : 0 < w.heap.size
  sh : w.ShapedOpen Tryz.prog
  h1 : 6 < w.heap.size
  h2 : 7 < w.heap.size
  syn : ∃ ev, w.cell? ⟨6, 0, none⟩ = some ev ∧ (ev = .nilIface ∨ ∃ te pe, ev = .iface te pe)
  ran : ∃ ev, w.cell? ⟨7, 0, none⟩ = some ev ∧ (ev = .nilIface ∨ ∃ te pe, ev = .iface te pe)
theorem Mem.below {w W : World} (m : Mem w) (hB : Below w.heap.size w W) : Mem W := by
  have hz := hB.size
  have hc := fun b o h => hB.cell (p := ⟨b, o, none⟩) (h : b < w.heap.size)
  have h0 := m.h0
  have h1 := m.h1
  have h2 := m.h2
  refine ⟨?_, by omega, shaped_below m.sh hB, by omega, by omega, ?_, ?_⟩
  · have := m.words
    unfold WordsAt at this ⊢
    simp only [hc _ _ h0]
    exact this
  · simp only [hc _ _ h1]; exact m.syn
  · simp only [hc _ _ h2]; exact m.ran
theorem Mem.sh' {w : World} (m : Mem w) : ∀ W : World, Below w.heap.size w W → W.ShapedOpen Tryz.prog := fun _ hB => (m.below hB).sh

theorem splits_of (line : ByteArray) (ps : List ByteArray) (hz : line.size < 4294967281) (h : Lib.splitB ⟨#[32]⟩ 0 (min 3 (line.size + 1) - 1) line = ps) : Splits line ps := by
  intro w hsh
  refine ⟨min 3 (line.size + 1), (Tryz.strings_SplitN_shaped line ⟨#[32]⟩ 3 w hsh hz (by decide) (by decide) (by decide)).mono ?_⟩
  rintro e w' ⟨rfl, rfl⟩
  refine ⟨by rw [h], _, rfl, fun i hi => ?_⟩
  rw [h]
  unfold Lib.cellsOf
  rw [List.getElem?_toArray, List.getElem?_append_left (by simpa using hi), List.getElem?_map, List.getElem?_eq_getElem hi]
  rfl
theorem lines_of (text : ByteArray) (ls : List ByteArray) (n : Nat) (hz : text.size < 4294967281) (hn : Lib.countB text ⟨#[10]⟩ = n) (h : Lib.splitB ⟨#[10]⟩ 0 n text = ls) (hl : ls.length = n + 1) : Lines text ls := by
  intro w hsh
  refine (Tryz.strings_Split_shaped text ⟨#[10]⟩ w hsh hz (by decide)).mono ?_
  rintro e w' ⟨rfl, rfl⟩
  rw [hn, h, hl]
  exact ⟨rfl, rfl⟩
theorem lines3 (s a b : ByteArray) (hs : s.data.toList = a.data.toList ++ 10 :: (b.data.toList ++ 10 :: [])) (ha : (10 : UInt8) ∉ a.data.toList) (hb : (10 : UInt8) ∉ b.data.toList) (hz : s.size < 4294967281) : Lines s [a, b, ⟨#[]⟩] := by
  have e1 : s.data.toList = a.data.toList ++ 10 :: (⟨(b.data.toList ++ [10]).toArray⟩ : ByteArray).data.toList := by simpa using hs
  have e2 : (⟨(b.data.toList ++ [10]).toArray⟩ : ByteArray).data.toList = b.data.toList ++ 10 :: (⟨#[]⟩ : ByteArray).data.toList := by simp
  refine lines_of s _ 2 hz ?_ ?_ rfl
  · rw [count_at 10 s a _ e1 ha, count_at 10 _ b _ e2 hb, count_none 10 _ (by simp)]
  · rw [split_at 10 1 s a _ e1 ha, split_at 10 0 _ b _ e2 hb, Lib.splitB_zero]

theorem num_one (w : World) (_m : Mem w) : Numbers w ⟨#[49]⟩ 1 true := fun W hB => number_small ⟨#[49]⟩ 1 (by decide) true (by decide) (by kernel_rfl) (by kernel_rfl) W
theorem num_neg (w : World) (_m : Mem w) : Numbers w ⟨#[45, 49]⟩ (-1) false := fun W hB => number_neg ⟨#[45, 49]⟩ (-1) (by decide) (by kernel_rfl) (by decide) W
theorem num_01 (w : World) (_m : Mem w) : Numbers w ⟨#[48, 49]⟩ 1 false := fun W hB => number_small ⟨#[48, 49]⟩ 1 (by decide) false (by decide) (by kernel_rfl) (by kernel_rfl) W
theorem num_plus (w : World) (_m : Mem w) : Numbers w ⟨#[43, 49]⟩ 1 false := fun W hB => number_small ⟨#[43, 49]⟩ 1 (by decide) false (by decide) (by kernel_rfl) (by kernel_rfl) W
theorem num_x (w : World) (m : Mem w) : Numbers w ⟨#[120]⟩ 0 false := fun W hB => by
  obtain ⟨ev, h1, h2⟩ := (m.below hB).syn
  exact number_bad ⟨#[120]⟩ (by decide) (by kernel_rfl) ev W h1 h2
theorem num_23 (w : World) (m : Mem w) : Numbers w ⟨#[50, 32, 51]⟩ 0 false := fun W hB => by
  obtain ⟨ev, h1, h2⟩ := (m.below hB).syn
  exact number_bad ⟨#[50, 32, 51]⟩ (by decide) (by kernel_rfl) ev W h1 h2
theorem num_big (w : World) (m : Mem w) : Numbers w ⟨#[57, 57, 57, 57, 57, 57, 57, 57, 57, 57, 57, 57, 57, 57, 57, 57, 57, 57, 57, 57]⟩ (Lib.atoiSat [57, 57, 57, 57, 57, 57, 57, 57, 57, 57, 57, 57, 57, 57, 57, 57, 57, 57, 57, 57]) false := fun W hB => by
  obtain ⟨ev, h1, h2⟩ := (m.below hB).ran
  exact number_range ⟨#[57, 57, 57, 57, 57, 57, 57, 57, 57, 57, 57, 57, 57, 57, 57, 57, 57, 57, 57, 57]⟩ (by decide) (by kernel_rfl) ev W h1 h2
theorem no_word (wd : ByteArray) (h : Word wd) (l : List UInt8) (hl : l.head? ≠ some 119) : (l == wd.toList) = false := by
  apply Bool.eq_false_iff.mpr
  intro e
  have e := eq_of_beq e
  rw [ByteArray.toList_eq] at e
  rw [e] at hl
  exact hl h.first

theorem bad_steps (w : World) (m : Mem w) (wd : ByteArray) (h : Word wd) (hz : wd.size ≤ 10) : ∀ r, r < 20 → Steps w (tab wd r) (.agg #[.int .i64 0, .string ⟨#[]⟩, .slice none 0 0, .int .i64 0, .int .i64 0]) false := by
  intro r hr W hB
  have M := m.below hB
  have sp : Splits (tab wd r) (parts wd r) := splits_of _ _ (by have := tab_size wd hz r hr; omega) (parts_are wd h r hr)
  match r, hr, sp with
  | 0, _, sp => exact step_put2 wd _ W M.words M.h0 M.sh' sp
  | 1, _, sp => exact step_put1 _ W M.words M.h0 M.sh' sp
  | 2, _, sp => exact step_drop1 _ W M.words M.h0 M.sh' sp
  | 3, _, sp => exact step_drop3 wd _ _ W M.words M.h0 M.sh' sp
  | 4, _, sp => exact step_build2 _ _ W M.words M.h0 M.sh' sp
  | 5, _, sp => exact step_crash2 _ _ W M.words M.h0 M.sh' sp
  | 6, _, sp => exact step_crash3b _ _ 1 (-1) _ W M.words M.h0 M.sh' (num_one W M) (num_neg W M) sp
  | 7, _, sp => exact step_crash3a _ _ 1 _ W M.words M.h0 M.sh' (num_01 W M) sp
  | 8, _, sp => exact step_fuse1 _ W M.words M.h0 M.sh' sp
  | 9, _, sp => exact step_fuse2 _ 0 _ W M.words M.h0 M.sh' (num_x W M) sp
  | 10, _, sp => exact step_fuse2 _ 1 _ W M.words M.h0 M.sh' (num_plus W M) sp
  | 11, _, sp => exact step_none1 wd (no_word wd h _ (by decide)) (no_word wd h _ (by decide)) (no_word wd h _ (by decide)) (no_word wd h _ (by decide)) (no_word wd h _ (by decide)) (no_word wd h _ (by decide)) (no_word wd h _ (by decide)) (no_word wd h _ (by decide)) _ W M.words M.h0 M.sh' sp
  | 12, _, sp => exact step_none1 ⟨#[]⟩ (by kernel_rfl) (by kernel_rfl) (by kernel_rfl) (by kernel_rfl) (by kernel_rfl) (by kernel_rfl) (by kernel_rfl) (by kernel_rfl) _ W M.words M.h0 M.sh' sp
  | 13, _, sp => exact step_none2 ⟨#[]⟩ _ (by kernel_rfl) (by kernel_rfl) (by kernel_rfl) (by kernel_rfl) (by kernel_rfl) (by kernel_rfl) (by kernel_rfl) (by kernel_rfl) _ W M.words M.h0 M.sh' sp
  | 14, _, sp => exact step_none1 ⟨#[66, 117, 105, 108, 100]⟩ (by kernel_rfl) (by kernel_rfl) (by kernel_rfl) (by kernel_rfl) (by kernel_rfl) (by kernel_rfl) (by kernel_rfl) (by kernel_rfl) _ W M.words M.h0 M.sh' sp
  | 15, _, sp => exact step_put3a _ _ ⟨#[]⟩ 2 (by decide) _ W M.words M.h0 M.sh' (fun V => uriDecode.dec_bad V) sp
  | 16, _, sp => exact step_read1 _ W M.words M.h0 M.sh' sp
  | 17, _, sp => exact step_sweep2 _ _ W M.words M.h0 M.sh' sp
  | 18, _, sp => exact step_crash3b _ _ 1 0 _ W M.words M.h0 M.sh' (num_one W M) (num_23 W M) sp
  | 19, _, sp => exact step_fuse2 _ _ _ W M.words M.h0 M.sh' (num_big W M) sp
  | r + 20, hr, _ => exact absurd hr (by omega)
theorem build_steps (w : World) (m : Mem w) : Steps w ⟨#[98, 117, 105, 108, 100]⟩ (.agg #[.int .i64 3, .string ⟨#[]⟩, .slice none 0 0, .int .i64 0, .int .i64 0]) true := by
  intro W hB
  have M := m.below hB
  exact step_build _ W M.words M.h0 M.sh' (splits_of _ _ (by decide) (by kernel_rfl))
theorem put_steps (w : World) (m : Mem w) (l q2 q d : ByteArray) (hsp : Splits l [⟨#[112, 117, 116]⟩, q, q2]) (hd : Decodes q2 d 0) : Puts w l q d := by
  intro W hB
  have M := m.below hB
  exact (step_put3 q q2 d l W M.words M.h0 M.sh' hd hsp).mono fun e w' ⟨g, v, h1, h2, h3, h4, h5⟩ => ⟨g, v, h1, h2, h3, h4, h5⟩

theorem bad_script (w : World) (m : Mem w) (wd : ByteArray) (h : Word wd) (hz : wd.size ≤ 10) (r : Nat) (hr : r < 20) (W : World) (hB : Below w.heap.size w W) :
    Calls Tryz.prog 16 #[.string (⟨#[98, 117, 105, 108, 100, 10]⟩ ++ tab wd r ++ ⟨#[10]⟩)] W fun e w' => e = .returned (.tuple #[.slice none 0 0, .int .i64 2]) ∧ Below W.heap.size W w' := by
  have M := m.below hB
  have hs := tab_size wd hz r hr
  refine script_bad _ ⟨#[98, 117, 105, 108, 100]⟩ (tab wd r) 3 W M.sh (lines3 _ _ _ ?_ (by decide) (no_break wd h r hr) ?_) (build_steps W M) (bad_steps W M wd h hz r hr)
  · simp
  · have e1 : (⟨#[98, 117, 105, 108, 100, 10]⟩ : ByteArray).size = 6 := rfl
    have e2 : (⟨#[10]⟩ : ByteArray).size = 1 := rfl
    simp only [ByteArray.size_append, e1, e2]
    omega
theorem run_err (text : ByteArray) (W : World) (h : Calls Tryz.prog 16 #[.string text] W fun e w' => e = .returned (.tuple #[.slice none 0 0, .int .i64 2]) ∧ Below W.heap.size W w') :
    Calls Tryz.prog 17 #[.int .i64 100, .string text] W fun e w' => e = .returned (.tuple #[.string ⟨#[]⟩, .int .i64 2]) ∧ Below W.heap.size W w' := by
  go_enter Tryz.func17, Tryz.ntmps17
  go_wp2_with fail
  refine h.mono ?_
  rintro e w1 ⟨rfl, hb⟩
  go_wp2_with fail
  go_ret2
  exact ⟨rfl, hb⟩
theorem open_script (w : World) (m : Mem w) (W : World) (hB : Below w.heap.size w W) :
    Calls Tryz.prog 16 #[.string ⟨#[98, 117, 105, 108, 100, 10, 115, 119, 101, 101, 112]⟩] W fun e w' => e = .returned (.tuple #[.slice none 0 0, .int .i64 2]) ∧ Below W.heap.size W w' :=
  script_open _ ⟨#[98, 117, 105, 108, 100]⟩ ⟨#[115, 119, 101, 101, 112]⟩ W (m.below hB).sh (by kernel_rfl) (lines_of _ _ 1 (by decide) (by kernel_rfl) (by kernel_rfl) rfl)
theorem nil_script (w : World) (m : Mem w) (W : World) (hB : Below w.heap.size w W) :
    Calls Tryz.prog 16 #[.string ⟨#[]⟩] W fun e w' => e = .returned (.tuple #[.slice none 0 0, .int .i64 0]) ∧ Below W.heap.size W w' :=
  script_nil _ W (m.below hB).sh (lines_of _ _ 0 (by decide) (by kernel_rfl) (by kernel_rfl) rfl)
theorem two_a (wd : ByteArray) (h : Word wd) (hz : wd.size ≤ 10) : Splits (⟨#[112, 117, 116, 32]⟩ ++ wd ++ ⟨#[32]⟩) [⟨#[112, 117, 116]⟩, wd, ⟨#[]⟩] := by
  have e1 : (⟨#[112, 117, 116, 32]⟩ : ByteArray).size = 4 := rfl
  have e2 : (⟨#[32]⟩ : ByteArray).size = 1 := rfl
  have z1 : ((⟨#[112, 117, 116, 32]⟩ ++ wd ++ ⟨#[32]⟩) : ByteArray).size = 4 + wd.size + 1 := by rw [ByteArray.size_append, ByteArray.size_append, e1, e2]
  have n32 := h.no 32 (by decide)
  refine splits_of _ _ (by omega) ?_
  have hm : min 3 (((⟨#[112, 117, 116, 32]⟩ ++ wd ++ ⟨#[32]⟩) : ByteArray).size + 1) - 1 = 1 + 1 := by omega
  have hd : (wd ++ ⟨#[32]⟩ : ByteArray).data.toList = wd.data.toList ++ 32 :: (⟨#[]⟩ : ByteArray).data.toList := by simp
  rw [hm, split_at 32 1 _ ⟨#[112, 117, 116]⟩ (wd ++ ⟨#[32]⟩) (by simp) (by decide), split_at 32 0 _ wd ⟨#[]⟩ hd n32, Lib.splitB_zero]
theorem two_b (wd : ByteArray) (h : Word wd) (hz : wd.size ≤ 10) : Splits (⟨#[112, 117, 116, 32]⟩ ++ wd ++ ⟨#[32, 97, 37, 50, 48, 98]⟩) [⟨#[112, 117, 116]⟩, wd, ⟨#[97, 37, 50, 48, 98]⟩] := by
  have e1 : (⟨#[112, 117, 116, 32]⟩ : ByteArray).size = 4 := rfl
  have e2 : (⟨#[32, 97, 37, 50, 48, 98]⟩ : ByteArray).size = 6 := rfl
  have z1 : ((⟨#[112, 117, 116, 32]⟩ ++ wd ++ ⟨#[32, 97, 37, 50, 48, 98]⟩) : ByteArray).size = 4 + wd.size + 6 := by rw [ByteArray.size_append, ByteArray.size_append, e1, e2]
  have n32 := h.no 32 (by decide)
  refine splits_of _ _ (by omega) ?_
  have hm : min 3 (((⟨#[112, 117, 116, 32]⟩ ++ wd ++ ⟨#[32, 97, 37, 50, 48, 98]⟩) : ByteArray).size + 1) - 1 = 1 + 1 := by omega
  have hd : (wd ++ ⟨#[32, 97, 37, 50, 48, 98]⟩ : ByteArray).data.toList = wd.data.toList ++ 32 :: (⟨#[97, 37, 50, 48, 98]⟩ : ByteArray).data.toList := by simp
  rw [hm, split_at 32 1 _ ⟨#[112, 117, 116]⟩ (wd ++ ⟨#[32, 97, 37, 50, 48, 98]⟩) (by simp) (by decide), split_at 32 0 _ wd ⟨#[97, 37, 50, 48, 98]⟩ hd n32, Lib.splitB_zero]
theorem two_l (wd : ByteArray) (h : Word wd) (hz : wd.size ≤ 10) : Lines (⟨#[112, 117, 116, 32]⟩ ++ wd ++ ⟨#[32, 10, 112, 117, 116, 32]⟩ ++ wd ++ ⟨#[32, 97, 37, 50, 48, 98, 10]⟩) [(⟨#[112, 117, 116, 32]⟩ ++ wd ++ ⟨#[32]⟩), (⟨#[112, 117, 116, 32]⟩ ++ wd ++ ⟨#[32, 97, 37, 50, 48, 98]⟩), ⟨#[]⟩] := by
  have n10 := h.no 10 (by decide)
  have e1 : (⟨#[112, 117, 116, 32]⟩ : ByteArray).size = 4 := rfl
  have e4 : (⟨#[32, 10, 112, 117, 116, 32]⟩ : ByteArray).size = 6 := rfl
  have e5 : (⟨#[32, 97, 37, 50, 48, 98, 10]⟩ : ByteArray).size = 7 := rfl
  refine lines3 _ _ _ (by simp) (by simp [n10]) (by simp [n10]) ?_
  simp only [ByteArray.size_append, e1, e4, e5]
  omega
theorem two_p1 (w : World) (m : Mem w) (wd : ByteArray) (h : Word wd) (hz : wd.size ≤ 10) : Puts w (⟨#[112, 117, 116, 32]⟩ ++ wd ++ ⟨#[32]⟩) wd ⟨#[]⟩ := put_steps w m _ ⟨#[]⟩ wd ⟨#[]⟩ (two_a wd h hz) (fun V => uriDecode.dec_empty V)
theorem two_p2 (w : World) (m : Mem w) (wd : ByteArray) (h : Word wd) (hz : wd.size ≤ 10) : Puts w (⟨#[112, 117, 116, 32]⟩ ++ wd ++ ⟨#[32, 97, 37, 50, 48, 98]⟩) wd ⟨#[97, 32, 98]⟩ := put_steps w m _ ⟨#[97, 37, 50, 48, 98]⟩ wd ⟨#[97, 32, 98]⟩ (two_b wd h hz) (fun V => uriDecode.dec_space V)
theorem two_script (w : World) (m : Mem w) (wd : ByteArray) (h : Word wd) (hz : wd.size ≤ 10) (W : World) (hB : Below w.heap.size w W) :
    Calls Tryz.prog 16 #[.string (⟨#[112, 117, 116, 32]⟩ ++ wd ++ ⟨#[32, 10, 112, 117, 116, 32]⟩ ++ wd ++ ⟨#[32, 97, 37, 50, 48, 98, 10]⟩)] W fun e w' => ∃ A cap g1 v1 g2 v2, e = .returned (.tuple #[.slice (some ⟨A, 0, none⟩) 2 cap, .int .i64 0]) ∧
      w'.ownsRow W.heap.size 24 5 (.slice (some ⟨A, 0, none⟩) 2 cap) 2 [.int .i64 1, .string wd, .slice (some ⟨g1, 0, none⟩) 0 v1, .int .i64 0, .int .i64 0, .int .i64 1, .string wd, .slice (some ⟨g2, 0, none⟩) 3 v2, .int .i64 0, .int .i64 0] ∧
      (∀ j, j < 3 → w'.cell? ⟨g2, j, none⟩ = some (.int .u8 ((([97, 32, 98] : List UInt8).getD j 0).toNat : Int))) ∧ Below W.heap.size W w' := by
  have M := m.below hB
  have key := script_two _ _ _ wd ⟨#[]⟩ wd ⟨#[97, 32, 98]⟩ W M.sh (two_l wd h hz) (two_p1 W M wd h hz) (two_p2 W M wd h hz)
  refine key.mono fun e w' hh => ?_
  obtain ⟨A, cap, g1, v1, g2, v2, h1, h2, h3, h4⟩ := hh
  exact ⟨A, cap, g1, v1, g2, v2, h1, h2, h3, h4⟩
/-- THE WALK. -/
theorem walk (which : Int) (name : ByteArray) (w : World) (m : Mem w) : Calls Tryz.prog 4 #[.int .i64 which, .string name] w fun e w' => e = .returned (.bool true) ∧ Below w.heap.size w w' :=
  main_walk which name w (fun wd h hz r hr W hB => bad_script w m wd h hz r hr W hB) (fun wd h hz r hr W hB => run_err _ W (bad_script w m wd h hz r hr W hB)) (open_script w m) (nil_script w m) (fun wd h hz W hB => two_script w m wd h hz W hB)
end Go.Proofs.YtibknkdgdfdkiaaGreatDoor.hubForms
