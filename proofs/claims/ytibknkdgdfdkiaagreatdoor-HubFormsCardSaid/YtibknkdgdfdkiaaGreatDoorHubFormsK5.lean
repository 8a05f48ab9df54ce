/- The row's closed facts, part 5: each by the kernel. -/
import Derived.Test.YtibknkdgdfdkiaaGreatDoorRows
import Derived.JoinedOf
import Derived.KernelRfl
namespace Go.Proofs.YtibknkdgdfdkiaaGreatDoor.hubForms
open Go

theorem k14 : ((Rows.hubFormsRow.maps == (Tryz.f4.params.toList ++ Rows.hubFormsSpec.plain.varTypes Tryz.prog).any (Tryz.prog.mapsRec ·))) = true := by kernel_rfl
theorem k15 : ((Rows.hubFormsRow.ifaces == (Tryz.f4.params.toList ++ Rows.hubFormsSpec.plain.varTypes Tryz.prog).any (Tryz.prog.ifacesRec ·))) = true := by kernel_rfl
theorem k16 : ((Rows.hubFormsRow.mapsOut == Tryz.prog.mapsAmong Tryz.f4.resultTypes.toList)) = true := by kernel_rfl
theorem k17 : ((Rows.hubFormsRow.loops == (Tryz.f4.params.toList ++ Rows.hubFormsSpec.plain.varTypes Tryz.prog).any (Tryz.prog.loopsFrom ·))) = true := by kernel_rfl
theorem k18 : ((Rows.hubFormsRow.wideKeys == (Tryz.f4.params.toList ++ Rows.hubFormsSpec.plain.varTypes Tryz.prog ++ Tryz.f4.resultTypes.toList).any (Tryz.prog.wideKeysFrom ·))) = true := by kernel_rfl
theorem k19 : (Rows.hubFormsSpec.vars.all (Tryz.prog.varReadable ·)) = true := by kernel_rfl
theorem k20 : (Tryz.f4.resultTypes.all (fun t => Tryz.prog.readableRec t && decide (t < Tryz.prog.types.size))) = true := by kernel_rfl
theorem k21 : ((Rows.hubFormsRow.ifacesOut == Tryz.f4.resultTypes.toList.any (Tryz.prog.ifacesRec ·))) = true := by kernel_rfl
theorem k22 : ((Rows.hubFormsRow.loopsOut == Tryz.f4.resultTypes.toList.any (Tryz.prog.loopsFrom ·))) = true := by kernel_rfl
theorem k23 : ((Rows.hubFormsRow.plainKeys == Tryz.prog.plainKeys)) = true := by kernel_rfl
theorem k24 : (Rows.hubFormsRow.shortTexts.isNone) = true := by kernel_rfl
theorem k25 : (Tryz.prog.stopsHeard) = true := by kernel_rfl
theorem k26 : (Tryz.prog.mayEnter) = true := by kernel_rfl
theorem k27 : ((Rows.hubFormsRow.lifted == Tryz.prog.liftsFinal)) = true := by kernel_rfl
theorem k28 : ((Tryz.prog.make == some Rows.hubFormsRow.make)) = true := by kernel_rfl
theorem k29 : ((Rows.hubFormsRow.kinds == (if Rows.hubFormsRow.domain.isEmpty then [] else Tryz.f4.params.toList.map fun t => match Tryz.prog.underlying t with | some (.int k) => some k | _ => none))) = true := by kernel_rfl
theorem k30 : ((Rows.hubFormsRow.pinned == Rows.hubFormsRow.pinnedBy)) = true := by kernel_rfl
theorem k31 : ((Rows.hubFormsRow.veiled == (Tryz.f4.params.toList ++ Rows.hubFormsSpec.plain.varTypes Tryz.prog ++ Tryz.f4.resultTypes.toList).any (Tryz.prog.veiledRec ·))) = true := by kernel_rfl
theorem k32 : (Rows.hubFormsRow.veiledFits Tryz.prog Tryz.f4.params.toList (Tryz.f4.params.toList ++ Rows.hubFormsSpec.plain.varTypes Tryz.prog ++ Tryz.f4.resultTypes.toList)) = true := by kernel_rfl
end Go.Proofs.YtibknkdgdfdkiaaGreatDoor.hubForms
