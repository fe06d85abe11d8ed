/- What all texts of this seat stand on: the rules, the program. -/
import Derived.Test.YteejmoldhbfdnaaGreatDoorCore3
import Derived.Test.YteejmoldhbfdnaaGreatDoorProg
import Derived.KernelRfl
namespace Go.Proofs.YteejmoldhbfdnaaGreatDoor
open Go.W
theorem M.mixed : Tryz.prog.follows .mixedOrders = true := by kernel_rfl
end Go.Proofs.YteejmoldhbfdnaaGreatDoor
