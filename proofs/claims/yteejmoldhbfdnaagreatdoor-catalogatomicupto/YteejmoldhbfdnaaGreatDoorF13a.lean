/- Closed facts of the row Rows.catalogAtomicUptoRow, one by one. Printed by facts.py. -/
import Derived.Test.YteejmoldhbfdnaaGreatDoorF0
import Derived.Test.YteejmoldhbfdnaaGreatDoorRows
namespace Go.Proofs.YteejmoldhbfdnaaGreatDoor.F13a
open Go.ChangeShapes Go.WideShapes Go.ChangeAt Go.RowKit
theorem k0 : (Rows.catalogAtomicUptoRow.wf (OpenSpec.ofChange (Rows.OpenSpec.upto Rows.catalogAtomicSpec).bare)) = true := by kernel_rfl
theorem k3 : (Tryz.f4.params.all (Tryz.prog.readableRec ·)) = true := by kernel_rfl
theorem k4 : (namedTie Tryz.prog Rows.catalogAtomicUptoRow.named (Rows.OpenSpec.upto Rows.catalogAtomicSpec).bare.vars) = true := by kernel_rfl
theorem k5 : ((Rows.catalogAtomicUptoRow.stops == [])) = true := by kernel_rfl
theorem k7 : ((Rows.catalogAtomicUptoRow.knobs == [])) = true := by kernel_rfl
theorem k9 : ((Rows.catalogAtomicUptoRow.inPlace == Tryz.prog.inPlace 4)) = true := by kernel_rfl
theorem k10 : ((Rows.catalogAtomicUptoRow.unfollowed == Tryz.prog.unfollowed 4)) = true := by kernel_rfl
theorem k11 : ((Rows.catalogAtomicUptoRow.recurses == Tryz.prog.recurses 4)) = true := by kernel_rfl
theorem k12 : ((Rows.catalogAtomicUptoRow.named == Tryz.prog.varsNamed 4)) = true := by kernel_rfl
theorem k13 : ((Rows.catalogAtomicUptoRow.maps == (Tryz.f4.params.toList ++ (Rows.OpenSpec.upto Rows.catalogAtomicSpec).bare.plain.varTypes Tryz.prog).any (Tryz.prog.mapsRec ·))) = true := by kernel_rfl
theorem k14 : ((Rows.catalogAtomicUptoRow.ifaces == (Tryz.f4.params.toList ++ (Rows.OpenSpec.upto Rows.catalogAtomicSpec).bare.plain.varTypes Tryz.prog).any (Tryz.prog.ifacesRec ·))) = true := by kernel_rfl
theorem k15 : ((Rows.catalogAtomicUptoRow.mapsOut == Tryz.prog.mapsAmong Tryz.f4.resultTypes.toList)) = true := by kernel_rfl
theorem k16 : ((Rows.catalogAtomicUptoRow.loops == (Tryz.f4.params.toList ++ (Rows.OpenSpec.upto Rows.catalogAtomicSpec).bare.plain.varTypes Tryz.prog).any (Tryz.prog.loopsFrom ·))) = true := by kernel_rfl
theorem k17 : ((Rows.catalogAtomicUptoRow.wideKeys == (Tryz.f4.params.toList ++ (Rows.OpenSpec.upto Rows.catalogAtomicSpec).bare.plain.varTypes Tryz.prog ++ Tryz.f4.resultTypes.toList).any (Tryz.prog.wideKeysFrom ·))) = true := by kernel_rfl
theorem k18 : ((Rows.OpenSpec.upto Rows.catalogAtomicSpec).bare.vars.all (Tryz.prog.varReadable ·)) = true := by kernel_rfl
theorem k19 : (Tryz.f4.resultTypes.all (fun t => Tryz.prog.readableRec t && decide (t < Tryz.prog.types.size))) = true := by kernel_rfl
theorem k20 : ((Rows.catalogAtomicUptoRow.ifacesOut == Tryz.f4.resultTypes.toList.any (Tryz.prog.ifacesRec ·))) = true := by kernel_rfl
theorem k21 : ((Rows.catalogAtomicUptoRow.loopsOut == Tryz.f4.resultTypes.toList.any (Tryz.prog.loopsFrom ·))) = true := by kernel_rfl
theorem k22 : ((Rows.catalogAtomicUptoRow.plainKeys == Tryz.prog.plainKeys)) = true := by kernel_rfl
theorem k23 : (Rows.catalogAtomicUptoRow.shortTexts.isNone) = true := by kernel_rfl
theorem k26 : ((Rows.catalogAtomicUptoRow.lifted == Tryz.prog.liftsFinal)) = true := by kernel_rfl
theorem k27 : ((Tryz.prog.make == some Rows.catalogAtomicUptoRow.make)) = true := by kernel_rfl
theorem k28 : ((Rows.catalogAtomicUptoRow.kinds == (if Rows.catalogAtomicUptoRow.domain.isEmpty then [] else Tryz.f4.params.toList.map fun t => match Tryz.prog.underlying t with | some (.int k) => some k | _ => none))) = true := by kernel_rfl
theorem k29 : ((Rows.catalogAtomicUptoRow.pinned == Rows.catalogAtomicUptoRow.pinnedBy)) = true := by kernel_rfl
theorem k30 : ((Rows.catalogAtomicUptoRow.veiled == (Tryz.f4.params.toList ++ (Rows.OpenSpec.upto Rows.catalogAtomicSpec).bare.plain.varTypes Tryz.prog ++ Tryz.f4.resultTypes.toList).any (Tryz.prog.veiledRec ·))) = true := by kernel_rfl
theorem k31 : (Rows.catalogAtomicUptoRow.veiledFits Tryz.prog Tryz.f4.params.toList (Tryz.f4.params.toList ++ (Rows.OpenSpec.upto Rows.catalogAtomicSpec).bare.plain.varTypes Tryz.prog ++ Tryz.f4.resultTypes.toList)) = true := by kernel_rfl
end Go.Proofs.YteejmoldhbfdnaaGreatDoor.F13a
