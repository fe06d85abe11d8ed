/- CatalogAtomic: the row, second form. -/
import Derived.Test.YteejmoldhbfdnaaGreatDoorLift13a
import Derived.Test.YteejmoldhbfdnaaGreatDoorF13ac
namespace Go.Proofs.YteejmoldhbfdnaaGreatDoor
open Go.ChangeShapes Go.WideShapes Go.ChangeAt Go.RowKit Go.Deep Go.W Seal
theorem name13a : Tryz.prog.funcNamed "warren/warrenlaw13.CatalogAtomic" = some 4 := by kernel_rfl
theorem saidUpto13a : Rows.CatalogAtomicUptoSaid :=
  OpenClaim.holds_of_cond 4 Tryz.f4 rfl rfl rfl rfl rfl rfl rfl ⟨rfl, rfl, rfl, rfl, rfl⟩ rfl rfl rfl rfl rfl name13a Tryz.func4 F13a.closed
    (of_decide_eq_true (by kernel_rfl)) (by unfold Func.isWrapper; first | (rw [if_pos (by decide +kernel)]; kernel_rfl) | (rw [if_neg (by decide +kernel)]; exact ⟨rfl, rfl⟩))
    (fun os started H enc _ F => by rw [OpenClaim.pre_eq_preRow]; exact liftedUpto13a os started H enc F)
end Go.Proofs.YteejmoldhbfdnaaGreatDoor
