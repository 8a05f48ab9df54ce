/-
  The walk of HubForms: what head, hub.Script and hub.Run answer comes in as hypotheses.
-/
import Derived.Test.YtibknkdgdfdkiaaGreatDoorHubScript
import Derived.Test.YtibknkdgdfdkiaaGreatDoorHubLines
import Derived.Test.YtibknkdgdfdkiaaGreatDoorHubNilW
import Derived.Laws.IdiomStrings
import Derived.Deep.Cut
namespace Go.Proofs.YtibknkdgdfdkiaaGreatDoor.hubForms
open Go.RowKit

theorem und5 : Tryz.prog.underlying 5 = some (.int .u8) := by kernel_rfl
theorem und9 : Tryz.prog.underlying 9 = some .string := by kernel_rfl
/-- The byte that is laid behind the word. -/
theorem letter (c : UInt8) : ∃ b : UInt8, (97 + (c.toNat : Int) % 26) = (b.toNat : Int) ∧ 97 ≤ b.toNat ∧ b.toNat ≤ 122 := by
  have h2 : c.toNat % 26 < 26 := Nat.mod_lt _ (by decide)
  have e : (UInt8.ofNat (97 + c.toNat % 26)).toNat = 97 + c.toNat % 26 := UInt8.toNat_ofNat_of_lt' (by show _ < 256; omega)
  exact ⟨UInt8.ofNat (97 + c.toNat % 26), by rw [e]; omega, by rw [e]; omega, by rw [e]; omega⟩
theorem run_letter (wr : World) (x : Int) (b : UInt8) (h : x = (b.toNat : Int)) : (convert 22 9 (.slice (some ⟨wr.heap.size, 0, none⟩) 1 1)).run Tryz.prog (wr.alloc (.cells #[.int .u8 x] 5)) = .ok (.string ⟨#[b]⟩) (wr.alloc (.cells #[.int .u8 x] 5)) := by
  refine run_convert_bytes_back _ 22 9 5 ⟨wr.heap.size, 0, none⟩ 1 [b] Tryz.underlying22 und5 und9 fun j hj => ?_
  match j, hj with
  | 0, _ => simp [Addr.add, h]
theorem word_more {wd : ByteArray} (h : Word wd) (b : UInt8) (h1 : 97 ≤ b.toNat) (h2 : b.toNat ≤ 122) : Word (wd ++ ⟨#[b]⟩) := by
  refine ⟨fun c hc => ?_, ?_⟩
  · simp at hc
    rcases hc with hc | rfl
    · exact h.small c (by simpa using hc)
    · exact ⟨h1, h2⟩
  · have := h.first
    cases e : wd.data.toList with
    | nil => simp [e] at this
    | cons a l => simp [e] at this ⊢; exact this
theorem which_row (which : Int) : ∃ r : Nat, r < 20 ∧ (IntKind.u64.wrap which).tmod 20 = (r : Int) := by
  have h0 : 0 ≤ IntKind.u64.wrap which := by
    show 0 ≤ IntKind.wrap .u64 which
    unfold IntKind.wrap
    simp
    exact Int.emod_nonneg _ (by decide)
  refine ⟨((IntKind.u64.wrap which).tmod 20).toNat, ?_, ?_⟩
  · rw [Int.tmod_eq_emod_of_nonneg h0]; omega
  · rw [Int.tmod_eq_emod_of_nonneg h0]; omega
theorem tab_row (wd : ByteArray) : ∀ r, r < 20 → ([.string (⟨#[112, 117, 116, 32]⟩ ++ wd), .string ⟨#[112, 117, 116]⟩, .string ⟨#[100, 114, 111, 112]⟩, .string (⟨#[100, 114, 111, 112, 32]⟩ ++ wd ++ ⟨#[32, 120]⟩), .string ⟨#[98, 117, 105, 108, 100, 32, 120]⟩, .string ⟨#[99, 114, 97, 115, 104, 32, 49]⟩, .string ⟨#[99, 114, 97, 115, 104, 32, 49, 32, 45, 49]⟩, .string ⟨#[99, 114, 97, 115, 104, 32, 48, 49, 32, 49]⟩, .string ⟨#[102, 117, 115, 101]⟩, .string ⟨#[102, 117, 115, 101, 32, 120]⟩, .string ⟨#[102, 117, 115, 101, 32, 43, 49]⟩, .string wd, .string ⟨#[]⟩, .string ⟨#[32, 98, 117, 105, 108, 100]⟩, .string ⟨#[66, 117, 105, 108, 100]⟩, .string ⟨#[112, 117, 116, 32, 97, 32, 37, 52]⟩, .string ⟨#[114, 101, 97, 100]⟩, .string ⟨#[115, 119, 101, 101, 112, 32]⟩, .string ⟨#[99, 114, 97, 115, 104, 32, 49, 32, 50, 32, 51]⟩, .string ⟨#[102, 117, 115, 101, 32, 57, 57, 57, 57, 57, 57, 57, 57, 57, 57, 57, 57, 57, 57, 57, 57, 57, 57, 57, 57]⟩] : List Value)[r]? = some (.string (tab wd r))
  | 0, _ => rfl
  | 1, _ => rfl
  | 2, _ => rfl
  | 3, _ => rfl
  | 4, _ => rfl
  | 5, _ => rfl
  | 6, _ => rfl
  | 7, _ => rfl
  | 8, _ => rfl
  | 9, _ => rfl
  | 10, _ => rfl
  | 11, _ => rfl
  | 12, _ => rfl
  | 13, _ => rfl
  | 14, _ => rfl
  | 15, _ => rfl
  | 16, _ => rfl
  | 17, _ => rfl
  | 18, _ => rfl
  | 19, _ => rfl
  | r + 20, hr => absurd hr (by omega)
theorem tab_get (wd : ByteArray) (r : Nat) (hr : r < 20) : ([.string (⟨#[112, 117, 116, 32]⟩ ++ wd), .string ⟨#[112, 117, 116]⟩, .string ⟨#[100, 114, 111, 112]⟩, .string (⟨#[100, 114, 111, 112, 32]⟩ ++ wd ++ ⟨#[32, 120]⟩), .string ⟨#[98, 117, 105, 108, 100, 32, 120]⟩, .string ⟨#[99, 114, 97, 115, 104, 32, 49]⟩, .string ⟨#[99, 114, 97, 115, 104, 32, 49, 32, 45, 49]⟩, .string ⟨#[99, 114, 97, 115, 104, 32, 48, 49, 32, 49]⟩, .string ⟨#[102, 117, 115, 101]⟩, .string ⟨#[102, 117, 115, 101, 32, 120]⟩, .string ⟨#[102, 117, 115, 101, 32, 43, 49]⟩, .string wd, .string ⟨#[]⟩, .string ⟨#[32, 98, 117, 105, 108, 100]⟩, .string ⟨#[66, 117, 105, 108, 100]⟩, .string ⟨#[112, 117, 116, 32, 97, 32, 37, 52]⟩, .string ⟨#[114, 101, 97, 100]⟩, .string ⟨#[115, 119, 101, 101, 112, 32]⟩, .string ⟨#[99, 114, 97, 115, 104, 32, 49, 32, 50, 32, 51]⟩, .string ⟨#[102, 117, 115, 101, 32, 57, 57, 57, 57, 57, 57, 57, 57, 57, 57, 57, 57, 57, 57, 57, 57, 57, 57, 57, 57]⟩] : List Value)[r]'hr = .string (tab wd r) :=
  (List.getElem?_eq_some_iff.mp (tab_row wd r hr)).2
set_option maxRecDepth 100000 in
set_option maxHeartbeats 4000000 in
theorem main_walk (which : Int) (name : ByteArray) (w : World)
    (hs1 : ∀ wd, Word wd → wd.size ≤ 10 → ∀ r, r < 20 → ∀ W : World, Below w.heap.size w W → Calls Tryz.prog 16 #[.string (⟨#[98, 117, 105, 108, 100, 10]⟩ ++ tab wd r ++ ⟨#[10]⟩)] W fun e w' => e = .returned (.tuple #[.slice none 0 0, .int .i64 2]) ∧ Below W.heap.size W w')
    (hs2 : ∀ wd, Word wd → wd.size ≤ 10 → ∀ r, r < 20 → ∀ W : World, Below w.heap.size w W → Calls Tryz.prog 17 #[.int .i64 100, .string (⟨#[98, 117, 105, 108, 100, 10]⟩ ++ tab wd r ++ ⟨#[10]⟩)] W fun e w' => e = .returned (.tuple #[.string ⟨#[]⟩, .int .i64 2]) ∧ Below W.heap.size W w')
    (hs3 : ∀ W : World, Below w.heap.size w W → Calls Tryz.prog 16 #[.string ⟨#[98, 117, 105, 108, 100, 10, 115, 119, 101, 101, 112]⟩] W fun e w' => e = .returned (.tuple #[.slice none 0 0, .int .i64 2]) ∧ Below W.heap.size W w')
    (hs4 : ∀ W : World, Below w.heap.size w W → Calls Tryz.prog 16 #[.string ⟨#[]⟩] W fun e w' => e = .returned (.tuple #[.slice none 0 0, .int .i64 0]) ∧ Below W.heap.size W w')
    (hs5 : ∀ wd, Word wd → wd.size ≤ 10 → ∀ W : World, Below w.heap.size w W → Calls Tryz.prog 16 #[.string (⟨#[112, 117, 116, 32]⟩ ++ wd ++ ⟨#[32, 10, 112, 117, 116, 32]⟩ ++ wd ++ ⟨#[32, 97, 37, 50, 48, 98, 10]⟩)] W fun e w' => ∃ A cap g1 v1 g2 v2, e = .returned (.tuple #[.slice (some ⟨A, 0, none⟩) 2 cap, .int .i64 0]) ∧
      w'.ownsRow W.heap.size 24 5 (.slice (some ⟨A, 0, none⟩) 2 cap) 2 [.int .i64 1, .string wd, .slice (some ⟨g1, 0, none⟩) 0 v1, .int .i64 0, .int .i64 0, .int .i64 1, .string wd, .slice (some ⟨g2, 0, none⟩) 3 v2, .int .i64 0, .int .i64 0] ∧
      (∀ j, j < 3 → w'.cell? ⟨g2, j, none⟩ = some (.int .u8 ((([97, 32, 98] : List UInt8).getD j 0).toNat : Int))) ∧ Below W.heap.size W w') :
    Calls Tryz.prog 4 #[.int .i64 which, .string name] w fun e w' => e = .returned (.bool true) ∧ Below w.heap.size w w' := by
  obtain ⟨r, hr, hx⟩ := which_row which
  go_enter Tryz.func4, Tryz.ntmps4
  go_wp2_with fail
  refine (hubNil.head_walk _).mono ?_
  rintro e w1 ⟨rfl, hb1⟩
  have HB := Lib.hid hb1
  have S1 := Lib.hid hs1
  have S2 := Lib.hid hs2
  have S3 := Lib.hid hs3
  have S4 := Lib.hid hs4
  have S5 := Lib.hid hs5
  clear hb1 hs1 hs2 hs3 hs4 hs5
  go_wp2_with fail
  go_loopw [5, 6] (fun v i wr => ∃ (k : Nat) (wd : ByteArray), v = .string wd ∧ i = .int .i64 k ∧ k ≤ name.size ∧ k ≤ 9 ∧ Hid (Word wd) ∧ wd.size = k + 1 ∧ Hid (Below w.heap.size w wr))
    (fun _ i _ => name.size - (intOf i).toNat)
  case atStart => exact ⟨0, ⟨#[119]⟩, rfl, rfl, Nat.zero_le _, by decide, Lib.hid ⟨by decide, rfl⟩, rfl, HB⟩
  case round =>
    obtain ⟨k, wd, rfl, rfl, hk, hk9, HW, hsz, HR⟩ := hrel
    have ht := tab_get wd r hr
    have htz := tab_size wd (by omega) r hr
    by_cases hkn : k < name.size
    · obtain ⟨b, hb, h97, h122⟩ := letter name[k]
      have hcv := run_letter wr (b.toNat : Int) b rfl
      go_wp2_with fail
      · go_roundw
        case rel =>
          refine ⟨k + 1, wd ++ ⟨#[b]⟩, rfl, by simp, by omega, by omega, Lib.hid (word_more HW.out b h97 h122), ?_, Lib.hid (HR.out.alloc HR.out.size _)⟩
          simp [ByteArray.size_append, hsz]
          rfl
        case measure => simp [intOf]; omega
      · refine (S1.out wd HW.out (by omega) r hr _ (HR.out.alloc HR.out.size _)).mono ?_
        rintro e w2 ⟨rfl, hb2⟩
        have B2 := Lib.hid ((HR.out.alloc HR.out.size _).trans (hb2.mono (by have := HR.out.size; simp; omega)))
        clear hb2 ht
        go_wp2_with fail
        refine (S2.out wd HW.out (by omega) r hr _ B2.out).mono ?_
        rintro e w3 ⟨rfl, hb3⟩
        have B3 := Lib.hid (B2.out.trans (hb3.mono B2.out.size))
        clear hb3
        go_wp2_with fail
        refine (S3.out _ B3.out).mono ?_
        rintro e w4 ⟨rfl, hb4⟩
        have B4 := Lib.hid (B3.out.trans (hb4.mono B3.out.size))
        clear hb4
        go_wp2_with fail
        refine (S4.out _ B4.out).mono ?_
        rintro e w5 ⟨rfl, hb5⟩
        have B5 := Lib.hid (B4.out.trans (hb5.mono B4.out.size))
        clear hb5
        go_wp2_with fail
        refine (S5.out wd HW.out (by omega) _ B5.out).mono ?_
        rintro e w6 ⟨A, cap, g1, v1, g2, v2, rfl, hown, hcs, hb6⟩
        have B6 := Lib.hid (B5.out.trans (hb6.mono B5.out.size))
        have c2 : w6.cell? ⟨A, 2, none⟩ = some (.slice (some ⟨g1, 0, none⟩) 0 v1) := by simpa [Addr.add] using hown.cells (g := A) rfl 2 _ rfl
        have c7 : w6.cell? ⟨A, 7, none⟩ = some (.slice (some ⟨g2, 0, none⟩) 3 v2) := by simpa [Addr.add] using hown.cells (g := A) rfl 7 _ rfl
        have hcw : (convert 22 9 (.slice (some ⟨g2, 0, none⟩) 3 v2)).run Tryz.prog w6 = .ok (.string ⟨#[97, 32, 98]⟩) w6 := by
          refine run_convert_bytes_back w6 22 9 5 ⟨g2, 0, none⟩ v2 [97, 32, 98] Tryz.underlying22 und5 und9 fun j hj => ?_
          match j, hj with
          | 0, _ => simpa [Addr.add] using hcs 0 (by decide)
          | 1, _ => simpa [Addr.add] using hcs 1 (by decide)
          | 2, _ => simpa [Addr.add] using hcs 2 (by decide)
        clear hown hcs hb6
        go_wp2_with fail
        go_ret
        exact ⟨rfl, B6.out⟩
    · go_wp2_with fail
      refine (S1.out wd HW.out (by omega) r hr _ (HR.out.alloc HR.out.size _)).mono ?_
      rintro e w2 ⟨rfl, hb2⟩
      have B2 := Lib.hid ((HR.out.alloc HR.out.size _).trans (hb2.mono (by have := HR.out.size; simp; omega)))
      clear hb2 ht
      go_wp2_with fail
      refine (S2.out wd HW.out (by omega) r hr _ B2.out).mono ?_
      rintro e w3 ⟨rfl, hb3⟩
      have B3 := Lib.hid (B2.out.trans (hb3.mono B2.out.size))
      clear hb3
      go_wp2_with fail
      refine (S3.out _ B3.out).mono ?_
      rintro e w4 ⟨rfl, hb4⟩
      have B4 := Lib.hid (B3.out.trans (hb4.mono B3.out.size))
      clear hb4
      go_wp2_with fail
      refine (S4.out _ B4.out).mono ?_
      rintro e w5 ⟨rfl, hb5⟩
      have B5 := Lib.hid (B4.out.trans (hb5.mono B4.out.size))
      clear hb5
      go_wp2_with fail
      refine (S5.out wd HW.out (by omega) _ B5.out).mono ?_
      rintro e w6 ⟨A, cap, g1, v1, g2, v2, rfl, hown, hcs, hb6⟩
      have B6 := Lib.hid (B5.out.trans (hb6.mono B5.out.size))
      have c2 : w6.cell? ⟨A, 2, none⟩ = some (.slice (some ⟨g1, 0, none⟩) 0 v1) := by simpa [Addr.add] using hown.cells (g := A) rfl 2 _ rfl
      have c7 : w6.cell? ⟨A, 7, none⟩ = some (.slice (some ⟨g2, 0, none⟩) 3 v2) := by simpa [Addr.add] using hown.cells (g := A) rfl 7 _ rfl
      have hcw : (convert 22 9 (.slice (some ⟨g2, 0, none⟩) 3 v2)).run Tryz.prog w6 = .ok (.string ⟨#[97, 32, 98]⟩) w6 := by
        refine run_convert_bytes_back w6 22 9 5 ⟨g2, 0, none⟩ v2 [97, 32, 98] Tryz.underlying22 und5 und9 fun j hj => ?_
        match j, hj with
        | 0, _ => simpa [Addr.add] using hcs 0 (by decide)
        | 1, _ => simpa [Addr.add] using hcs 1 (by decide)
        | 2, _ => simpa [Addr.add] using hcs 2 (by decide)
      clear hown hcs hb6
      go_wp2_with fail
      go_ret
      exact ⟨rfl, B6.out⟩
end Go.Proofs.YtibknkdgdfdkiaaGreatDoor.hubForms
