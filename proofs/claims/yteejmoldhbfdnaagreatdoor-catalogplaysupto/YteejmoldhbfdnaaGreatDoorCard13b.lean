/- CatalogPlays: the card, second form. Printed by cards.py. -/
import Derived.Test.YteejmoldhbfdnaaGreatDoorWitB
import Derived.Test.YteejmoldhbfdnaaGreatDoorWrap13b
import Derived.Test.YteejmoldhbfdnaaGreatDoorF13b
namespace Go.Proofs.YteejmoldhbfdnaaGreatDoor.F13b
open Go.ChangeShapes Go.WideShapes Go.ChangeAt Go.RowKit
set_option maxRecDepth 100000 in
theorem closed : joinedFacts Tryz.pinned.checked.prog 5 Tryz.f5 (Rows.OpenSpec.upto Rows.catalogPlaysSpec).bare Rows.catalogPlaysUptoRow = true := by
  have h : joinedFacts Tryz.prog 5 Tryz.f5 (Rows.OpenSpec.upto Rows.catalogPlaysSpec).bare Rows.catalogPlaysUptoRow = true := by
    unfold joinedFacts
    exact F0.bt (F0.bt (F0.bt (F0.bt (F0.bt (F0.bt (F0.bt (F0.bt (F0.bt (F0.bt (F0.bt (F0.bt (F0.bt (F0.bt (F0.bt (F0.bt (F0.bt (F0.bt (F0.bt (F0.bt (F0.bt (F0.bt (F0.bt (F0.bt (F0.bt (F0.bt (F0.bt (F0.bt (F0.bt (F0.bt (F0.bt (k0) F0.k1) F0.k2) k3) k4) k5) F0.k6) k7) F0.k8) k9) k10) k11) k12) k13) k14) k15) k16) k17) k18) k19) k20) k21) k22) k23) F0.k24) F0.k25) k26) k27) k28) k29) k30) k31
  exact h
end Go.Proofs.YteejmoldhbfdnaaGreatDoor.F13b
namespace Go.Proofs.YteejmoldhbfdnaaGreatDoor
open Go.ChangeShapes Go.WideShapes Go.ChangeAt Go.RowKit Go.Deep Go.W Seal
noncomputable abbrev args13b : Array Value := #[.slice none 0 0]
noncomputable abbrev start13b (os : Os) : World := (WB.laidWorld os).forCall (fun _ _ => 0) ⟨#[], args13b, []⟩
theorem vars13b (os : Os) : (start13b os).variablesRefB Tryz.checked.prog = true := by kernel_rfl
theorem laid13b (os : Os) : laidMet Tryz.prog Rows.catalogPlaysUptoRow.laid (start13b os).memory := laidMet_of_run' 8 (by kernel_rfl) (by kernel_rfl)
theorem reads13b (os : Os) {H : Type} (enc : TypeId × Value → H) : ∃ places, DataW.whole enc Tryz.prog (start13b os).memory Tryz.f5.params.toList Rows.catalogPlaysSpec.vars false args13b.toList 8 = some ([.nil], [], places) :=
  ⟨[], by kernel_rfl⟩
set_option maxRecDepth 100000 in
theorem liftedUpto13b (os : Os) (started : os.Started) (H : Type) (enc : TypeId × Value → H) (F : Stop.Interp) :
    ReturnsInHanded {} Tryz.checked os 5 .any ((Rows.OpenSpec.upto Rows.catalogPlaysSpec).preRow enc Tryz.prog Tryz.f5 Rows.catalogPlaysUptoRow.domain false Rows.catalogPlaysUptoRow.laid) (((Rows.OpenSpec.upto Rows.catalogPlaysSpec).at F).post enc Tryz.prog Tryz.f5 false true false false) := by
  obtain ⟨places, hx⟩ := reads13b os enc
  refine returnsInHanded_of_row (C := Tryz.checked) (s := Rows.OpenSpec.upto Rows.catalogPlaysSpec) WB.own started (by kernel_rfl) Tryz.func5
    (witness_row_atRef (enc := enc) (C := Tryz.checked) false (WB.laidWorld os) args13b rfl (vars13b os) (by kernel_rfl) (by kernel_rfl)
      (OpenSpec.preRow_of_cond 8 hx (by kernel_rfl) (fun k hk => by cases hk; kernel_rfl) (by kernel_rfl) (laid13b os))) ?_
  intro W base args ds gs before hval hW _ hcond _ hL _ _
  exact contract13b H enc W base args ds gs before hval hW (hcond _ rfl) hL
theorem name13b : Tryz.prog.funcNamed "warren/warrenlaw13.CatalogPlays" = some 5 := by kernel_rfl
theorem saidUpto13b : Rows.CatalogPlaysUptoSaid :=
  OpenClaim.holds_of_cond 5 Tryz.f5 rfl rfl rfl rfl rfl rfl rfl ⟨rfl, rfl, rfl, rfl, rfl⟩ rfl rfl rfl rfl rfl name13b Tryz.func5 F13b.closed
    (of_decide_eq_true (by kernel_rfl)) (by unfold Func.isWrapper; first | (rw [if_pos (by decide +kernel)]; kernel_rfl) | (rw [if_neg (by decide +kernel)]; exact ⟨rfl, rfl⟩))
    (fun os started H enc _ F => by rw [OpenClaim.pre_eq_preRow]; exact liftedUpto13b os started H enc F)
end Go.Proofs.YteejmoldhbfdnaaGreatDoor
