/- BodiesFull holds: for every input of at most 1048576 values and letters the call returns true and leaves its arguments as they were. Second form, tied card. -/
import Derived.Test.YteejmoldhbfdnaaGreatDoorCard14
import Derived.Test.YteejmoldhbfdnaaGreatDoorTie
namespace Go.Proofs.YteejmoldhbfdnaaGreatDoor
open Go.ChangeShapes Go.WideShapes Go.ChangeAt Go.RowKit Go.Deep Go.W Seal
theorem looks' : true = Tryz.prog.looks [] := by kernel_rfl
theorem plain14 (f : FuncId) (fn : Func) (hf : Tryz.pinned.checked.prog.funcNamed "warren/warrenlaw14.BodiesFull" = some f) (hfn : Tryz.pinned.checked.prog.funcs[f]? = some fn) :
    true = Tryz.pinned.checked.prog.looks [] ∧ ∀ (j : Nat) t, fn.params[j]? = some t → Tryz.pinned.checked.prog.wantsStandIn t = false := by
  obtain rfl : f = 3 := Option.some.inj (name14.symm.trans hf) |>.symm
  obtain rfl : fn = Tryz.f3 := (Option.some.inj (Tryz.func3.symm.trans hfn)).symm
  refine ⟨looks', fun j t ht => ?_⟩
  rw [Tryz.params3] at ht
  rcases (by simpa using Array.mem_of_getElem? ht : t = 3 ∨ t = 22) with rfl | rfl
  · exact (show Tryz.prog.wantsStandIn 3 = false by kernel_rfl)
  · exact (show Tryz.prog.wantsStandIn 22 = false by kernel_rfl)
theorem bodiesFull_holds : Rows.BodiesFullUptoCardSaid :=
  Claim7.holds_tied_plain_at .later [] _ _ _ _ saidUpto14 (fun _ h => by cases h) (by kernel_rfl) (fun _ h => by cases h) bodiesFullUpto_row_tie rfl ⟨rfl, rfl⟩ (by kernel_rfl) rfl plain14 (by kernel_rfl)
end Go.Proofs.YteejmoldhbfdnaaGreatDoor
