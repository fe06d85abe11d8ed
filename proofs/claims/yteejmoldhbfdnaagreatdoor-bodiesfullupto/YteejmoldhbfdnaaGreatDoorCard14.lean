/- BodiesFull: the row, second form. -/
import Derived.Test.YteejmoldhbfdnaaGreatDoorLift14
import Derived.Test.YteejmoldhbfdnaaGreatDoorF14c
namespace Go.Proofs.YteejmoldhbfdnaaGreatDoor
open Go.ChangeShapes Go.WideShapes Go.ChangeAt Go.RowKit Go.Deep Go.W Seal
theorem name14 : Tryz.prog.funcNamed "warren/warrenlaw14.BodiesFull" = some 3 := by kernel_rfl
theorem saidUpto14 : Rows.BodiesFullUptoSaid :=
  OpenClaim.holds_of_cond 3 Tryz.f3 rfl rfl rfl rfl rfl rfl rfl ⟨rfl, rfl, rfl, rfl, rfl⟩ rfl rfl rfl rfl rfl name14 Tryz.func3 F14.closed
    (of_decide_eq_true (by kernel_rfl)) (by unfold Func.isWrapper; first | (rw [if_pos (by decide +kernel)]; kernel_rfl) | (rw [if_neg (by decide +kernel)]; exact ⟨rfl, rfl⟩))
    (fun os started H enc _ F => by rw [OpenClaim.pre_eq_preRow]; exact liftedUpto14 os started H enc F)
end Go.Proofs.YteejmoldhbfdnaaGreatDoor
