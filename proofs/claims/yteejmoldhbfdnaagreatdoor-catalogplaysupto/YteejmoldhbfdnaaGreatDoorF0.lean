/- Closed facts of the program, one by one. Printed by facts.py. -/
import Derived.Test.YteejmoldhbfdnaaGreatDoorBase
import Derived.JoinedCond
namespace Go.Proofs.YteejmoldhbfdnaaGreatDoor.F0
theorem bt {a b : Bool} (ha : a = true) (hb : b = true) : (a && b) = true := by rw [ha, hb]; rfl
theorem k1 : (laidOutB Tryz.prog) = true := by kernel_rfl
theorem k2 : (mapsRowed Tryz.prog) = true := by kernel_rfl
theorem k6 : ((Tryz.prog.stops == [])) = true := by kernel_rfl
theorem k8 : ((Tryz.prog.stopKnobs == [])) = true := by kernel_rfl
theorem k24 : (Tryz.prog.stopsHeard) = true := by kernel_rfl
theorem k25 : (Tryz.prog.mayEnter) = true := by kernel_rfl
end Go.Proofs.YteejmoldhbfdnaaGreatDoor.F0
