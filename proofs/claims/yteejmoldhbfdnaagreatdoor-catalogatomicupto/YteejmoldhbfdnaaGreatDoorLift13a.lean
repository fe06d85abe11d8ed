/- CatalogAtomic: the card, second form. -/
import Derived.Test.YteejmoldhbfdnaaGreatDoorWitB
import Derived.Test.YteejmoldhbfdnaaGreatDoorWrap13a
namespace Go.Proofs.YteejmoldhbfdnaaGreatDoor
open Go.ChangeShapes Go.WideShapes Go.ChangeAt Go.RowKit Go.Deep Go.W Seal
noncomputable abbrev args13a : Array Value := #[.slice none 0 0, .slice none 0 0, .agg #[.slice none 0 0, .int .i64 0]]
noncomputable abbrev start13a (os : Os) : World := (WB.laidWorld os).forCall (fun _ _ => 0) ⟨#[], args13a, []⟩
theorem vars13a (os : Os) : (start13a os).variablesRefB Tryz.checked.prog = true := by kernel_rfl
theorem laid13a (os : Os) : laidMet Tryz.prog Rows.catalogAtomicUptoRow.laid (start13a os).memory := laidMet_of_run' 8 (by kernel_rfl) (by kernel_rfl)
theorem reads13a (os : Os) {H : Type} (enc : TypeId × Value → H) : ∃ places, DataW.whole enc Tryz.prog (start13a os).memory Tryz.f4.params.toList Rows.catalogAtomicSpec.vars false args13a.toList 8 = some ([.nil, .nil, .agg [.nil, .lit (.int .i64 0)]], [], places) :=
  ⟨[], by kernel_rfl⟩
set_option maxRecDepth 100000 in
theorem liftedUpto13a (os : Os) (started : os.Started) (H : Type) (enc : TypeId × Value → H) (F : Stop.Interp) :
    ReturnsInHanded {} Tryz.checked os 4 .any ((Rows.OpenSpec.upto Rows.catalogAtomicSpec).preRow enc Tryz.prog Tryz.f4 Rows.catalogAtomicUptoRow.domain false Rows.catalogAtomicUptoRow.laid) (((Rows.OpenSpec.upto Rows.catalogAtomicSpec).at F).post enc Tryz.prog Tryz.f4 false true false false) := by
  obtain ⟨places, hx⟩ := reads13a os enc
  refine returnsInHanded_of_row (C := Tryz.checked) (s := Rows.OpenSpec.upto Rows.catalogAtomicSpec) WB.own started (by kernel_rfl) Tryz.func4
    (witness_row_atRef (enc := enc) (C := Tryz.checked) false (WB.laidWorld os) args13a rfl (vars13a os) (by kernel_rfl) (by kernel_rfl)
      (OpenSpec.preRow_of_cond 8 hx (by kernel_rfl) (fun k hk => by cases hk; kernel_rfl) (by kernel_rfl) (laid13a os))) ?_
  intro W base args ds gs before hval hW _ hcond _ hL _ _
  exact contract13a H enc W base args ds gs before hval hW (hcond _ rfl) hL
end Go.Proofs.YteejmoldhbfdnaaGreatDoor
