/- Closed facts of the row Rows.bodiesFullUptoRow, one by one. Printed by facts.py. -/
import Derived.Test.YteejmoldhbfdnaaGreatDoorF0
import Derived.Test.YteejmoldhbfdnaaGreatDoorRows
namespace Go.Proofs.YteejmoldhbfdnaaGreatDoor.F14
open Go.ChangeShapes Go.WideShapes Go.ChangeAt Go.RowKit
theorem k0 : (Rows.bodiesFullUptoRow.wf (OpenSpec.ofChange (Rows.OpenSpec.upto Rows.bodiesFullSpec).bare)) = true := by kernel_rfl
theorem k3 : (Tryz.f3.params.all (Tryz.prog.readableRec ·)) = true := by kernel_rfl
theorem k4 : (namedTie Tryz.prog Rows.bodiesFullUptoRow.named (Rows.OpenSpec.upto Rows.bodiesFullSpec).bare.vars) = true := by kernel_rfl
theorem k5 : ((Rows.bodiesFullUptoRow.stops == [])) = true := by kernel_rfl
theorem k7 : ((Rows.bodiesFullUptoRow.knobs == [])) = true := by kernel_rfl
theorem k9 : ((Rows.bodiesFullUptoRow.inPlace == Tryz.prog.inPlace 3)) = true := by kernel_rfl
theorem k10 : ((Rows.bodiesFullUptoRow.unfollowed == Tryz.prog.unfollowed 3)) = true := by kernel_rfl
theorem k11 : ((Rows.bodiesFullUptoRow.recurses == Tryz.prog.recurses 3)) = true := by kernel_rfl
theorem k12 : ((Rows.bodiesFullUptoRow.named == Tryz.prog.varsNamed 3)) = true := by kernel_rfl
theorem k13 : ((Rows.bodiesFullUptoRow.maps == (Tryz.f3.params.toList ++ (Rows.OpenSpec.upto Rows.bodiesFullSpec).bare.plain.varTypes Tryz.prog).any (Tryz.prog.mapsRec ·))) = true := by kernel_rfl
theorem k14 : ((Rows.bodiesFullUptoRow.ifaces == (Tryz.f3.params.toList ++ (Rows.OpenSpec.upto Rows.bodiesFullSpec).bare.plain.varTypes Tryz.prog).any (Tryz.prog.ifacesRec ·))) = true := by kernel_rfl
theorem k15 : ((Rows.bodiesFullUptoRow.mapsOut == Tryz.prog.mapsAmong Tryz.f3.resultTypes.toList)) = true := by kernel_rfl
theorem k16 : ((Rows.bodiesFullUptoRow.loops == (Tryz.f3.params.toList ++ (Rows.OpenSpec.upto Rows.bodiesFullSpec).bare.plain.varTypes Tryz.prog).any (Tryz.prog.loopsFrom ·))) = true := by kernel_rfl
theorem k17 : ((Rows.bodiesFullUptoRow.wideKeys == (Tryz.f3.params.toList ++ (Rows.OpenSpec.upto Rows.bodiesFullSpec).bare.plain.varTypes Tryz.prog ++ Tryz.f3.resultTypes.toList).any (Tryz.prog.wideKeysFrom ·))) = true := by kernel_rfl
theorem k18 : ((Rows.OpenSpec.upto Rows.bodiesFullSpec).bare.vars.all (Tryz.prog.varReadable ·)) = true := by kernel_rfl
theorem k19 : (Tryz.f3.resultTypes.all (fun t => Tryz.prog.readableRec t && decide (t < Tryz.prog.types.size))) = true := by kernel_rfl
theorem k20 : ((Rows.bodiesFullUptoRow.ifacesOut == Tryz.f3.resultTypes.toList.any (Tryz.prog.ifacesRec ·))) = true := by kernel_rfl
theorem k21 : ((Rows.bodiesFullUptoRow.loopsOut == Tryz.f3.resultTypes.toList.any (Tryz.prog.loopsFrom ·))) = true := by kernel_rfl
theorem k22 : ((Rows.bodiesFullUptoRow.plainKeys == Tryz.prog.plainKeys)) = true := by kernel_rfl
theorem k23 : (Rows.bodiesFullUptoRow.shortTexts.isNone) = true := by kernel_rfl
theorem k26 : ((Rows.bodiesFullUptoRow.lifted == Tryz.prog.liftsFinal)) = true := by kernel_rfl
theorem k27 : ((Tryz.prog.make == some Rows.bodiesFullUptoRow.make)) = true := by kernel_rfl
theorem k28 : ((Rows.bodiesFullUptoRow.kinds == (if Rows.bodiesFullUptoRow.domain.isEmpty then [] else Tryz.f3.params.toList.map fun t => match Tryz.prog.underlying t with | some (.int k) => some k | _ => none))) = true := by kernel_rfl
theorem k29 : ((Rows.bodiesFullUptoRow.pinned == Rows.bodiesFullUptoRow.pinnedBy)) = true := by kernel_rfl
theorem k30 : ((Rows.bodiesFullUptoRow.veiled == (Tryz.f3.params.toList ++ (Rows.OpenSpec.upto Rows.bodiesFullSpec).bare.plain.varTypes Tryz.prog ++ Tryz.f3.resultTypes.toList).any (Tryz.prog.veiledRec ·))) = true := by kernel_rfl
theorem k31 : (Rows.bodiesFullUptoRow.veiledFits Tryz.prog Tryz.f3.params.toList (Tryz.f3.params.toList ++ (Rows.OpenSpec.upto Rows.bodiesFullSpec).bare.plain.varTypes Tryz.prog ++ Tryz.f3.resultTypes.toList)) = true := by kernel_rfl
end Go.Proofs.YteejmoldhbfdnaaGreatDoor.F14
