/- Closed facts of the row Rows.catalogPlaysUptoRow, one by one. Printed by facts.py. -/
import Derived.Test.YteejmoldhbfdnaaGreatDoorF0
import Derived.Test.YteejmoldhbfdnaaGreatDoorRows
namespace Go.Proofs.YteejmoldhbfdnaaGreatDoor.F13b
open Go.ChangeShapes Go.WideShapes Go.ChangeAt Go.RowKit
theorem k0 : (Rows.catalogPlaysUptoRow.wf (OpenSpec.ofChange (Rows.OpenSpec.upto Rows.catalogPlaysSpec).bare)) = true := by kernel_rfl
theorem k3 : (Tryz.f5.params.all (Tryz.prog.readableRec ·)) = true := by kernel_rfl
theorem k4 : (namedTie Tryz.prog Rows.catalogPlaysUptoRow.named (Rows.OpenSpec.upto Rows.catalogPlaysSpec).bare.vars) = true := by kernel_rfl
theorem k5 : ((Rows.catalogPlaysUptoRow.stops == [])) = true := by kernel_rfl
theorem k7 : ((Rows.catalogPlaysUptoRow.knobs == [])) = true := by kernel_rfl
theorem k9 : ((Rows.catalogPlaysUptoRow.inPlace == Tryz.prog.inPlace 5)) = true := by kernel_rfl
theorem k10 : ((Rows.catalogPlaysUptoRow.unfollowed == Tryz.prog.unfollowed 5)) = true := by kernel_rfl
theorem k11 : ((Rows.catalogPlaysUptoRow.recurses == Tryz.prog.recurses 5)) = true := by kernel_rfl
theorem k12 : ((Rows.catalogPlaysUptoRow.named == Tryz.prog.varsNamed 5)) = true := by kernel_rfl
theorem k13 : ((Rows.catalogPlaysUptoRow.maps == (Tryz.f5.params.toList ++ (Rows.OpenSpec.upto Rows.catalogPlaysSpec).bare.plain.varTypes Tryz.prog).any (Tryz.prog.mapsRec ·))) = true := by kernel_rfl
theorem k14 : ((Rows.catalogPlaysUptoRow.ifaces == (Tryz.f5.params.toList ++ (Rows.OpenSpec.upto Rows.catalogPlaysSpec).bare.plain.varTypes Tryz.prog).any (Tryz.prog.ifacesRec ·))) = true := by kernel_rfl
theorem k15 : ((Rows.catalogPlaysUptoRow.mapsOut == Tryz.prog.mapsAmong Tryz.f5.resultTypes.toList)) = true := by kernel_rfl
theorem k16 : ((Rows.catalogPlaysUptoRow.loops == (Tryz.f5.params.toList ++ (Rows.OpenSpec.upto Rows.catalogPlaysSpec).bare.plain.varTypes Tryz.prog).any (Tryz.prog.loopsFrom ·))) = true := by kernel_rfl
theorem k17 : ((Rows.catalogPlaysUptoRow.wideKeys == (Tryz.f5.params.toList ++ (Rows.OpenSpec.upto Rows.catalogPlaysSpec).bare.plain.varTypes Tryz.prog ++ Tryz.f5.resultTypes.toList).any (Tryz.prog.wideKeysFrom ·))) = true := by kernel_rfl
theorem k18 : ((Rows.OpenSpec.upto Rows.catalogPlaysSpec).bare.vars.all (Tryz.prog.varReadable ·)) = true := by kernel_rfl
theorem k19 : (Tryz.f5.resultTypes.all (fun t => Tryz.prog.readableRec t && decide (t < Tryz.prog.types.size))) = true := by kernel_rfl
theorem k20 : ((Rows.catalogPlaysUptoRow.ifacesOut == Tryz.f5.resultTypes.toList.any (Tryz.prog.ifacesRec ·))) = true := by kernel_rfl
theorem k21 : ((Rows.catalogPlaysUptoRow.loopsOut == Tryz.f5.resultTypes.toList.any (Tryz.prog.loopsFrom ·))) = true := by kernel_rfl
theorem k22 : ((Rows.catalogPlaysUptoRow.plainKeys == Tryz.prog.plainKeys)) = true := by kernel_rfl
theorem k23 : (Rows.catalogPlaysUptoRow.shortTexts.isNone) = true := by kernel_rfl
theorem k26 : ((Rows.catalogPlaysUptoRow.lifted == Tryz.prog.liftsFinal)) = true := by kernel_rfl
theorem k27 : ((Tryz.prog.make == some Rows.catalogPlaysUptoRow.make)) = true := by kernel_rfl
theorem k28 : ((Rows.catalogPlaysUptoRow.kinds == (if Rows.catalogPlaysUptoRow.domain.isEmpty then [] else Tryz.f5.params.toList.map fun t => match Tryz.prog.underlying t with | some (.int k) => some k | _ => none))) = true := by kernel_rfl
theorem k29 : ((Rows.catalogPlaysUptoRow.pinned == Rows.catalogPlaysUptoRow.pinnedBy)) = true := by kernel_rfl
theorem k30 : ((Rows.catalogPlaysUptoRow.veiled == (Tryz.f5.params.toList ++ (Rows.OpenSpec.upto Rows.catalogPlaysSpec).bare.plain.varTypes Tryz.prog ++ Tryz.f5.resultTypes.toList).any (Tryz.prog.veiledRec ·))) = true := by kernel_rfl
theorem k31 : (Rows.catalogPlaysUptoRow.veiledFits Tryz.prog Tryz.f5.params.toList (Tryz.f5.params.toList ++ (Rows.OpenSpec.upto Rows.catalogPlaysSpec).bare.plain.varTypes Tryz.prog ++ Tryz.f5.resultTypes.toList)) = true := by kernel_rfl
end Go.Proofs.YteejmoldhbfdnaaGreatDoor.F13b
