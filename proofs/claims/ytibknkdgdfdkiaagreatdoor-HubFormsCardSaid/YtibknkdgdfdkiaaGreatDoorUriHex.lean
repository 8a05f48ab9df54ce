import Derived.Test.YtibknkdgdfdkiaaGreatDoorProg
import Derived.WalkKit
import Derived.WalkLawsBesides
import Derived.WalkSpells
import Derived.Outline
import Derived.IntWalk
import Derived.Lib.Hide
namespace Go.Proofs.YtibknkdgdfdkiaaGreatDoor.uriDecode
open Go.RowKit

/-- A hexadecimal digit's value; -1: it is none. -/
def hexv (r : Int) : Int := if 48 ≤ r ∧ r ≤ 57 then r - 48 else if 97 ≤ r ∧ r ≤ 102 then r - 87 else if 65 ≤ r ∧ r ≤ 70 then r - 55 else -1
theorem hexv_range (r : Int) : -1 ≤ hexv r ∧ hexv r ≤ 15 := by unfold hexv; split <;> (try split) <;> (try split) <;> omega
theorem hex_any (r : Int) (h0 : 0 ≤ r) (h1 : r ≤ 1114111) (w : World) :
    Calls Tryz.prog 166 #[.int .i32 r] w fun e w' => e = .returned (.int .i64 (hexv r)) ∧ w = w' := by
  generalize hE : hexv r = z
  unfold hexv at hE
  have E := Lib.hid hE
  clear hE
  go_enter Tryz.func166, Tryz.ntmps166
  go_wp2
  go_ways
  all_goals go_ret
  all_goals (have E := E.out)
  all_goals refine ⟨congrArg (fun z => Ending.returned (.int .i64 z)) ?_, rfl⟩
  all_goals (split at E <;> (try split at E) <;> (try split at E) <;> omega)
end Go.Proofs.YtibknkdgdfdkiaaGreatDoor.uriDecode
