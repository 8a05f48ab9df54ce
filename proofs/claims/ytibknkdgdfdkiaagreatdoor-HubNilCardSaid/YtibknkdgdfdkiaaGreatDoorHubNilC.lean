import Derived.Test.YtibknkdgdfdkiaaGreatDoorRows
import Derived.Test.YtibknkdgdfdkiaaGreatDoorHubNilW
import Derived.WalkKit
import Derived.ProofKit
import Derived.LaidMore
import Derived.OpenShut
import Derived.Stop.Joined
import Derived.Lib.SmallJoins
import Derived.Deep.Fields
import Derived.Carry
import Derived.Test.YtibknkdgdfdkiaaGreatDoorHubNilF
namespace Go.Proofs.YtibknkdgdfdkiaaGreatDoor.hubNil
open Go.Joins Go.ChangeShapes Go.WideShapes Go.ChangeAt Go.RowKit Go.Deep

set_option maxRecDepth 100000 in
/-- What the walk gives, for every argument and every memory. -/
theorem contract (H : Type) (enc : TypeId × Value → H) (W : World) (base : Nat) (args : Array Value) (ds gs : List (DataW H)) (before : List MemPlace)
    (hval : ∀ (j : Nat) t v, Tryz.f3.params[j]? = some t → args[j]? = some v → Value.okWide Tryz.prog W .any base t v)
    (hW : DataW.Whole enc Tryz.prog Tryz.f3.params.toList Rows.hubNilSpec.vars false W args.toList ds gs before) :
    Calls Tryz.prog 3 args W fun e W' => ∃ v, e = .returned v ∧ Rows.hubNilSpec.post enc Tryz.prog Tryz.f3 false true false false W args v W' := by
  have hW' := hW
  obtain ⟨p, q, hA0, hV, rfl, hfz, hnd⟩ := hW
  have hA : DataW.TrodAll enc Tryz.prog W 0 (fun _ => true) true Tryz.f3.params.toList args.toList ds p := hA0
  rw [Tryz.params3] at hA hval
  obtain ⟨v0, vs0, d0, ds0, p0, q0, hargs, rfl, rfl, h0, r0⟩ := trodAll_cons hA
  obtain ⟨rfl, rfl, rfl⟩ := trodAll_nil r0
  obtain rfl : args = #[v0] := by cases args; simp_all
  obtain ⟨rfl, rfl⟩ := trodVars_none hV
  have hok := hval 0 24 v0 rfl rfl
  have hlt : ∀ x ∈ p0, x.block < W.heap.size := fun x hx => hW'.lt x (by simp [hx])
  have h00 := h0
  obtain ⟨c0, c1, c2, c3, c4, y0, y1, y2, y3, y4, n, rfl, rfl, rfl, e0, e1, e2, e3, e4⟩ := open_agg5 Tryz.underlying24 one24 cells24 hok h0
  obtain ⟨k, x0, _, _⟩ := DataW.trod_int Tryz.underlying3 e0
  obtain ⟨nm, x1, _, _⟩ := DataW.trod_string Tryz.underlying9 e1
  obtain ⟨a, l, c, x2⟩ : ∃ a l c, c2 = .slice a l c := by
    rcases DataW.trod_slice Tryz.underlying22 e2 with ⟨h, _⟩ | ⟨a, len, cap, elems, rest, n, _, hcs, _⟩
    · simp at h; exact ⟨_, _, _, h⟩
    · simp at hcs; exact ⟨_, _, _, hcs⟩
  obtain ⟨nn, x3, _, _⟩ := DataW.trod_int Tryz.underlying3 e3
  obtain ⟨tt, x4, _, _⟩ := DataW.trod_int Tryz.underlying3 e4
  simp at x0 x1 x3 x4
  subst x0 x1 x2 x3 x4
  clear hA0
  refine (walk k nm a l c nn tt W).mono fun e W' ⟨he, hb⟩ => ?_
  subst he
  refine ⟨_, rfl, _, _, _, [], (y0.2 ++ (y1.2 ++ (y2.2 ++ (y3.2 ++ y4.2))) ++ []), [], hW', ?_, ?_, rfl, hb.frame _, fun h => by cases h⟩
  · exact trodAll_cons_mk (shut_bool Tryz.underlying4 _) trodAll_mk0
  · exact trodAll_cons_mk (Below.trod laidOut reads24 rowed24 h00 hb hlt) trodAll_mk0
end Go.Proofs.YtibknkdgdfdkiaaGreatDoor.hubNil
