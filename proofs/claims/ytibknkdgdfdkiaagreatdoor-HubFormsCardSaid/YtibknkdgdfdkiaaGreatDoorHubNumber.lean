import Derived.Test.YtibknkdgdfdkiaaGreatDoorShelf
import Derived.WalkKit
import Derived.WalkLawsBesides
import Derived.WalkSpells
import Derived.Outline
namespace Go.Proofs.YtibknkdgdfdkiaaGreatDoor.hubForms
open Go.RowKit

theorem below_bytesWorld (w : World) (e : TypeId) (t : ByteArray) : Below w.heap.size w (Lib.bytesWorld w e t) := by
  unfold Lib.bytesWorld World.freeze
  rw [if_neg (by decide)]
  refine ⟨rfl, rfl, rfl, by simp, fun k hk => ?_⟩
  simp only [Array.getElem?_modify]
  rw [if_neg (by omega)]
  exact Below.heap_alloc w.drew _ k hk
theorem atoi_ok (s : ByteArray) (hmax : s.size ≤ 9223372036854775806) (v : Int) (h : Lib.atoiAll s.data.toList = .ok v) (w : World) :
    Calls Tryz.prog 167 #[.string s] w fun e w' => e = .returned (.tuple #[.int .i64 v, .nilIface]) ∧ Below w.heap.size w w' :=
  (Tryz.strconv_Atoi_ok s hmax v h w).mono fun e w' ⟨he, hb⟩ => ⟨he, by
    rcases hb with rfl | ⟨t, rfl⟩
    · exact Below.refl _ _
    · exact below_bytesWorld _ _ _⟩

theorem number_bad (s : ByteArray) (hlim : s.size ≤ 281474976710656) (hb : (match Lib.atoiAll s.data.toList with | .ok _ => false | .range => false | _ => true) = true) (ev : Value) (w : World) (hv : w.cell? ⟨6, 0, none⟩ = some ev) (hev : ev = .nilIface ∨ ∃ te pe, ev = .iface te pe) :
    Calls Tryz.prog 96 #[.string s] w fun e w' => e = .returned (.tuple #[.int .i64 0, .bool false]) ∧ Below w.heap.size w w' := by
  cases h : Lib.atoiAll s.data.toList
  case ok v => rw [h] at hb; cases hb
  case range => rw [h] at hb; cases hb
  clear hb
  go_enter Tryz.func96, Tryz.ntmps96
  go_wp2_with fail
  refine (Any.strconv_Atoi_syntax Tryz.laysC172 s hlim h ev _ hv hev).mono ?_
  rintro e w' ⟨N, rfl, _, _, hb⟩
  go_wp2_with fail
  go_ret2
  exact ⟨rfl, hb⟩
theorem number_range (s : ByteArray) (hlim : s.size ≤ 281474976710656) (h : Lib.atoiAll s.data.toList = .range) (ev : Value) (w : World) (hv : w.cell? ⟨7, 0, none⟩ = some ev) (hev : ev = .nilIface ∨ ∃ te pe, ev = .iface te pe) :
    Calls Tryz.prog 96 #[.string s] w fun e w' => e = .returned (.tuple #[.int .i64 (Lib.atoiSat s.data.toList), .bool false]) ∧ Below w.heap.size w w' := by
  go_enter Tryz.func96, Tryz.ntmps96
  go_wp2_with fail
  refine (Tryz.strconv_Atoi_range s hlim h ev _ hv hev).mono ?_
  rintro e w' ⟨N, rfl, _, _, hb⟩
  go_wp2_with fail
  go_ret2
  exact ⟨rfl, hb⟩
theorem number_neg (s : ByteArray) (v : Int) (hmax : s.size ≤ 9223372036854775806) (h : Lib.atoiAll s.data.toList = .ok v) (hv : v < 0) (w : World) :
    Calls Tryz.prog 96 #[.string s] w fun e w' => e = .returned (.tuple #[.int .i64 v, .bool false]) ∧ Below w.heap.size w w' := by
  go_enter Tryz.func96, Tryz.ntmps96
  go_wp2_with fail
  refine (atoi_ok s hmax v h _).mono ?_
  rintro e w' ⟨rfl, hB⟩
  go_wp2_with fail
  go_ret2
  exact ⟨rfl, hB⟩
theorem number_small (s : ByteArray) (i : Nat) (hi : i < 100) (b : Bool) (hmax : s.size ≤ 9223372036854775806) (h : Lib.atoiAll s.data.toList = .ok (i : Int)) (hb : (Lib.decDigits i == s.toList) = b) (w : World) :
    Calls Tryz.prog 96 #[.string s] w fun e w' => e = .returned (.tuple #[.int .i64 i, .bool b]) ∧ Below w.heap.size w w' := by
  go_enter Tryz.func96, Tryz.ntmps96
  go_wp2_with fail
  refine (atoi_ok s hmax _ h _).mono ?_
  rintro e w' ⟨rfl, hB⟩
  go_wp2_with fail
  refine (Tryz.strconv_Itoa_small i hi _).mono ?_
  rintro e w'' ⟨rfl, rfl⟩
  go_wp2_with fail
  go_ret2
  exact ⟨rfl, hB⟩
end Go.Proofs.YtibknkdgdfdkiaaGreatDoor.hubForms
