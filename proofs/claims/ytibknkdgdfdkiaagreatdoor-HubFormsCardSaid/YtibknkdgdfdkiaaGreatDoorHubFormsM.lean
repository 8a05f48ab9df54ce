/-
  HubForms: what the row lists of the memory gives what the walk asks of it; and the contract in the row's own terms.
-/
import Derived.Test.YtibknkdgdfdkiaaGreatDoorRows
import Derived.Test.YtibknkdgdfdkiaaGreatDoorHubFormsC
import Derived.WalkKit
import Derived.ProofKit
import Derived.LaidMore
import Derived.OpenShut
import Derived.Stop.Joined
import Derived.Lib.SmallJoins
import Derived.Deep.Fields
import Derived.Carry
namespace Go.Proofs.YtibknkdgdfdkiaaGreatDoor.hubForms
open Go.Joins Go.ChangeShapes Go.WideShapes Go.ChangeAt Go.RowKit Go.Deep

theorem laid_reads {P : Program} {w : World} : ∀ {l : List (String × DataW Unit)} {ps : List MemPlace}, DataW.LaidVars P w l ps → ∀ n d, (n, d) ∈ l →
    ∃ g t cs fuel p, P.globalNamed n = some g ∧ (P.globals[g]?).map (·.type) = some t ∧ w.var? P n = some cs ∧ DataW.trod (fun _ => ()) P w 0 (fun _ => true) false fuel t cs.toList = some (d, p)
  | [], _, _, _, _, hm => by cases hm
  | (n', d') :: r, ps, h, n, d, hm => by
    obtain ⟨g, t, cs, fuel, p, q, h1, h2, h3, h4, h5, _⟩ := h
    rcases List.mem_cons.1 hm with e | e
    · cases e
      exact ⟨g, t, cs, fuel, p, h1, h2, h3, h4⟩
    · exact laid_reads h5 n d e
theorem iface_of_trod {H : Type} {enc : TypeId × Value → H} {P : Program} {w : World} {base : Nat} {spare : Nat → Bool} {held : Bool} {fuel : Nat} {t : TypeId} {ms : Array (String × TypeId)} {cs : List Value} {x : DataW H × List MemPlace}
    (ht : P.underlying t = some (.interface ms)) (h : DataW.trod enc P w base spare held fuel t cs = some x) : ∃ v, cs = [v] ∧ (v = .nilIface ∨ ∃ u q, v = .iface u q) := by
  cases fuel with
  | zero => simp [DataW.trod] at h
  | succ n =>
    unfold DataW.trod at h
    rw [ht] at h
    split at h <;> simp_all
theorem mapM_get {α β : Type} {f : α → Option β} : ∀ {l : List α} {r : List β}, l.mapM f = some r → ∀ (i : Nat) (a : α), l[i]? = some a → ∃ b, r[i]? = some b ∧ f a = some b
  | [], _, _, i, a, ha => by simp at ha
  | x :: l, r, h, i, a, ha => by
    simp only [List.mapM_cons, Option.bind_eq_bind, Option.bind_eq_some_iff, Option.pure_def, Option.some.injEq] at h
    obtain ⟨b, hb, r', hr', rfl⟩ := h
    cases i with
    | zero => simp at ha; subst ha; exact ⟨b, by simp, hb⟩
    | succ i =>
      obtain ⟨c, hc, hf⟩ := mapM_get hr' i a (by simpa using ha)
      exact ⟨c, by simpa using hc, hf⟩
theorem string_elem {H : Type} {enc : TypeId × Value → H} {P : Program} {w : World} {base : Nat} {spare : Nat → Bool} {held : Bool} {fuel : Nat} {t e : TypeId} {n : Nat} {cs : List Value} {ds : List (DataW H)} {p : List MemPlace}
    (ht : P.underlying t = some (.array n e)) (he : P.underlying e = some .string) (hc : P.cellsOf e = 1) (h : DataW.trod enc P w base spare held fuel t cs = some (.agg ds, p)) (i : Nat) (hi : i < n) (s : List UInt8) (hs : ds[i]? = some (.lit (.string s))) :
    cs[i]? = some (.string ⟨s.toArray⟩) := by
  cases fuel with
  | zero => simp [DataW.trod] at h
  | succ fuel =>
    simp only [DataW.trod, ht] at h
    split at h
    · obtain ⟨xs, hm, hx⟩ := Option.map_eq_some_iff.1 h
      obtain ⟨b, hb, hf⟩ := mapM_get hm i i (by simp [hi])
      have hds : xs.map (·.1) = ds := by
        have := congrArg Prod.fst hx
        simpa using this
      obtain ⟨u, h1, rfl, _⟩ := DataW.trod_string he hf
      rw [hc] at h1
      have h2 : cs[i]? = some (.string u) := by
        have := congrArg (·[0]?) h1
        simpa [List.getElem?_take, List.getElem?_drop] using this
      have h3 : ds[i]? = some (DataW.lit (.string u.data.toList)) := by rw [← hds]; simp [hb]
      rw [hs] at h3
      simp only [Option.some.injEq, DataW.lit.injEq, Lit.string.injEq] at h3
      rw [h2, h3]
    · cases h
theorem und94 : Tryz.prog.underlying 94 = some (.array 9 9) := by kernel_rfl
theorem cells9 : Tryz.prog.cellsOf 9 = 1 := by kernel_rfl
theorem name0 : Tryz.prog.globalNamed "woodcut/hub.words" = some 0 := by kernel_rfl
theorem name6 : Tryz.prog.globalNamed "strconv.ErrSyntax" = some 6 := by kernel_rfl
theorem name7 : Tryz.prog.globalNamed "strconv.ErrRange" = some 7 := by kernel_rfl
theorem type0 : (Tryz.prog.globals[0]?).map (·.type) = some 94 := by kernel_rfl
theorem type6 : (Tryz.prog.globals[6]?).map (·.type) = some 91 := by kernel_rfl
theorem type7 : (Tryz.prog.globals[7]?).map (·.type) = some 91 := by kernel_rfl
theorem isIface91 : (match Tryz.prog.underlying 91 with | some (.interface _) => true | _ => false) = true := by kernel_rfl
theorem und91 : ∃ ms, Tryz.prog.underlying 91 = some (.interface ms) := by
  have h := isIface91
  split at h
  · rename_i ms e; exact ⟨ms, e⟩
  · cases h
theorem plainly : (Rows.hubFormsRow.laid.all fun x => x.2.handleName?.isNone) = true := by kernel_rfl
theorem sentinel_of {w : World} {n : String} {g : Nat} {d : DataW Unit} {ps : List MemPlace} (hv : DataW.LaidVars Tryz.prog w Rows.hubFormsRow.laid ps) (hm : (n, d) ∈ Rows.hubFormsRow.laid) (hg : Tryz.prog.globalNamed n = some g) (ht : (Tryz.prog.globals[g]?).map (·.type) = some 91) :
    ∃ ev, w.cell? ⟨g, 0, none⟩ = some ev ∧ (ev = .nilIface ∨ ∃ te pe, ev = .iface te pe) := by
  obtain ⟨g', t, cs, fuel, p, h1, h2, h3, h4⟩ := laid_reads hv n d hm
  obtain rfl := Option.some.inj (hg.symm.trans h1)
  obtain rfl := Option.some.inj (ht.symm.trans h2)
  obtain ⟨ms, hu⟩ := und91
  obtain ⟨v, hc, hv'⟩ := iface_of_trod hu h4
  refine ⟨v, ?_, hv'⟩
  rw [World.var?_cell hg h3 0, ← Array.getElem?_toList, hc]
  rfl
theorem mem_of (w : World) (hsh : w.ShapedOpen Tryz.prog) (hx : laidMetH Tryz.prog Rows.hubFormsRow.laid w) : Mem w := by
  rw [MakeChecks.laidMetH_plain _ _ _ plainly] at hx
  obtain ⟨ps, hv, _⟩ := hx
  obtain ⟨g', t, cs, fuel, p, a1, a2, a3, a4⟩ := laid_reads hv "woodcut/hub.words" Rows.laid_woodcut_hub_words (by unfold Rows.hubFormsRow; simp)
  obtain rfl := Option.some.inj (name0.symm.trans a1)
  obtain rfl := Option.some.inj (type0.symm.trans a2)
  have hw : ∀ (i : Nat) (s : List UInt8), i < 9 → (match (Rows.laid_woodcut_hub_words : DataW Unit) with | .agg ds => ds[i]? | _ => none) = some (.lit (.string s)) → w.cell? ⟨0, i, none⟩ = some (.string ⟨s.toArray⟩) := by
    intro i s hi hs
    rw [World.var?_cell name0 a3 i, ← Array.getElem?_toList]
    exact string_elem und94 und9 cells9 a4 i hi s hs
  have s6 := sentinel_of hv (n := "strconv.ErrSyntax") (d := Rows.laid_strconv_ErrSyntax) (by unfold Rows.hubFormsRow; simp) name6 type6
  have s7 := sentinel_of hv (n := "strconv.ErrRange") (d := Rows.laid_strconv_ErrRange) (by unfold Rows.hubFormsRow; simp) name7 type7
  have w0 := hw 0 [] (by decide) rfl
  obtain ⟨e6, c6, _⟩ := s6
  obtain ⟨e7, c7, _⟩ := s7
  exact ⟨⟨w0, hw 1 [112, 117, 116] (by decide) rfl, hw 2 [100, 114, 111, 112] (by decide) rfl, hw 3 [98, 117, 105, 108, 100] (by decide) rfl, hw 4 [112, 117, 98, 108, 105, 115, 104] (by decide) rfl, hw 5 [114, 101, 97, 100] (by decide) rfl, hw 6 [102, 117, 115, 101] (by decide) rfl, hw 7 [99, 114, 97, 115, 104] (by decide) rfl, hw 8 [115, 119, 101, 101, 112] (by decide) rfl⟩, World.block_lt_of_cell? _ _ w0, hsh, World.block_lt_of_cell? _ _ c6, World.block_lt_of_cell? _ _ c7, ⟨e6, c6, by assumption⟩, ⟨e7, c7, by assumption⟩⟩
theorem laidOut : laidOutB Tryz.prog = true := by kernel_rfl
theorem reads3 : Tryz.prog.readableRec 3 = true := by kernel_rfl
theorem rowed3 : (3 : Nat) < Tryz.prog.types.size := of_decide_eq_true (by kernel_rfl)
theorem reads9 : Tryz.prog.readableRec 9 = true := by kernel_rfl
theorem rowed9 : (9 : Nat) < Tryz.prog.types.size := of_decide_eq_true (by kernel_rfl)
set_option maxRecDepth 100000 in
/-- What the walk gives, for every argument and every memory. -/
theorem contract (H : Type) (enc : TypeId × Value → H) (W : World) (base : Nat) (args : Array Value) (ds gs : List (DataW H)) (before : List MemPlace) (m : Mem W)
    (hval : ∀ (j : Nat) t v, Tryz.f4.params[j]? = some t → args[j]? = some v → Value.okWide Tryz.prog W .any base t v)
    (hW : DataW.Whole enc Tryz.prog Tryz.f4.params.toList Rows.hubFormsSpec.vars false W args.toList ds gs before) :
    Calls Tryz.prog 4 args W fun e W' => ∃ v, e = .returned v ∧ Rows.hubFormsSpec.post enc Tryz.prog Tryz.f4 false true false false W args v W' := by
  have hW' := hW
  obtain ⟨p, q, hA0, hV, rfl, hfz, hnd⟩ := hW
  have hA : DataW.TrodAll enc Tryz.prog W 0 (fun _ => true) true Tryz.f4.params.toList args.toList ds p := hA0
  rw [Tryz.params4] at hA hval
  obtain ⟨v0, vs0, d0, ds0, p0, q0, hargs, rfl, rfl, h0, r0⟩ := trodAll_cons hA
  obtain ⟨v1, vs1, d1, ds1, p1, q1, hargs1, rfl, rfl, h1, r1⟩ := trodAll_cons r0
  obtain ⟨rfl, rfl, rfl⟩ := trodAll_nil r1
  subst hargs1
  obtain rfl : args = #[v0, v1] := by cases args; simp_all
  obtain ⟨rfl, rfl⟩ := trodVars_none hV
  have hok0 := hval 0 3 v0 rfl rfl
  have hok1 := hval 1 9 v1 rfl rfl
  have hlt0 : ∀ x ∈ p0, x.block < W.heap.size := fun x hx => hW'.lt x (by simp [hx])
  have hlt1 : ∀ x ∈ p1, x.block < W.heap.size := fun x hx => hW'.lt x (by simp [hx])
  obtain ⟨k, rfl⟩ := okWide_int Tryz.underlying3 hok0
  obtain ⟨s, rfl⟩ := okWide_string und9 hok1
  clear hA0
  refine (walk k s W m).mono fun e W' ⟨he, hb⟩ => ?_
  subst he
  refine ⟨_, rfl, _, _, _, [], (p0 ++ (p1 ++ [])), [], hW', ?_, ?_, rfl, hb.frame _, fun h => by cases h⟩
  · exact trodAll_cons_mk (shut_bool Tryz.underlying4 _) trodAll_mk0
  · exact trodAll_cons_mk (Below.trod laidOut reads3 rowed3 h0 hb hlt0) (trodAll_cons_mk (Below.trod laidOut reads9 rowed9 h1 hb hlt1) trodAll_mk0)
end Go.Proofs.YtibknkdgdfdkiaaGreatDoor.hubForms
