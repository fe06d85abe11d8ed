import Derived.Test.YteejmoldhbfdnaaGreatDoorF13a
namespace Go.Proofs.YteejmoldhbfdnaaGreatDoor.F13a
open Go.ChangeShapes Go.WideShapes Go.ChangeAt Go.RowKit
set_option maxRecDepth 100000 in
theorem closed : joinedFacts Tryz.pinned.checked.prog 4 Tryz.f4 (Rows.OpenSpec.upto Rows.catalogAtomicSpec).bare Rows.catalogAtomicUptoRow = true := by
  have h : joinedFacts Tryz.prog 4 Tryz.f4 (Rows.OpenSpec.upto Rows.catalogAtomicSpec).bare Rows.catalogAtomicUptoRow = true := by
    unfold joinedFacts
    exact F0.bt (F0.bt (F0.bt (F0.bt (F0.bt (F0.bt (F0.bt (F0.bt (F0.bt (F0.bt (F0.bt (F0.bt (F0.bt (F0.bt (F0.bt (F0.bt (F0.bt (F0.bt (F0.bt (F0.bt (F0.bt (F0.bt (F0.bt (F0.bt (F0.bt (F0.bt (F0.bt (F0.bt (F0.bt (F0.bt (F0.bt (k0) F0.k1) F0.k2) k3) k4) k5) F0.k6) k7) F0.k8) k9) k10) k11) k12) k13) k14) k15) k16) k17) k18) k19) k20) k21) k22) k23) F0.k24) F0.k25) k26) k27) k28) k29) k30) k31
  exact h
end Go.Proofs.YteejmoldhbfdnaaGreatDoor.F13a
