/- BodiesFull: the card, second form. -/
import Derived.Test.YteejmoldhbfdnaaGreatDoorWit14
namespace Go.Proofs.YteejmoldhbfdnaaGreatDoor
open Go.ChangeShapes Go.WideShapes Go.ChangeAt Go.RowKit Go.Deep Go.W Seal
theorem reads14 (os : Os) {H : Type} (enc : TypeId × Value → H) : ∃ places, DataW.whole enc Tryz.prog (start14 os).memory Tryz.f3.params.toList Rows.bodiesFullSpec.vars false args14.toList 8 = some ([.lit (.int .i64 0), .nil], [], places) :=
  ⟨[], by kernel_rfl⟩
set_option maxRecDepth 100000 in
theorem liftedUpto14 (os : Os) (started : os.Started) (H : Type) (enc : TypeId × Value → H) (F : Stop.Interp) :
    ReturnsInHanded {} Tryz.checked os 3 .any ((Rows.OpenSpec.upto Rows.bodiesFullSpec).preRow enc Tryz.prog Tryz.f3 Rows.bodiesFullUptoRow.domain false Rows.bodiesFullUptoRow.laid) (((Rows.OpenSpec.upto Rows.bodiesFullSpec).at F).post enc Tryz.prog Tryz.f3 false true false false) := by
  obtain ⟨places, hx⟩ := reads14 os enc
  refine returnsInHanded_of_row (C := Tryz.checked) (s := Rows.OpenSpec.upto Rows.bodiesFullSpec) own' started (by kernel_rfl) Tryz.func3
    (witness_row_atRef (enc := enc) (C := Tryz.checked) false (laidWorld os) args14 rfl (vars14 os) (by kernel_rfl) (by kernel_rfl)
      (OpenSpec.preRow_of_cond 8 hx (by kernel_rfl) (fun k hk => by cases hk; kernel_rfl) (by kernel_rfl) (laid14 os))) ?_
  intro W base args ds gs before hval hW _ hcond _ hL _ _
  exact contract14 H enc W base args ds gs before hval hW (hcond _ rfl) hL
end Go.Proofs.YteejmoldhbfdnaaGreatDoor
