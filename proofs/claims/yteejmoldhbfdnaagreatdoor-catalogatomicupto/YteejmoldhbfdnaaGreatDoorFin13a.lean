/- CatalogAtomic holds: for every input of at most 1048576 values and letters the call returns true and leaves its arguments as they were. Second form, tied card. -/
import Derived.Test.YteejmoldhbfdnaaGreatDoorCard13a
import Derived.Test.YteejmoldhbfdnaaGreatDoorTie
namespace Go.Proofs.YteejmoldhbfdnaaGreatDoor
open Go.ChangeShapes Go.WideShapes Go.ChangeAt Go.RowKit Go.Deep Go.W Seal
theorem plain13a (f : FuncId) (fn : Func) (hf : Tryz.pinned.checked.prog.funcNamed "warren/warrenlaw13.CatalogAtomic" = some f) (hfn : Tryz.pinned.checked.prog.funcs[f]? = some fn) :
    true = Tryz.pinned.checked.prog.looks [] ∧ ∀ (j : Nat) t, fn.params[j]? = some t → Tryz.pinned.checked.prog.wantsStandIn t = false := by
  obtain rfl : f = 4 := Option.some.inj (name13a.symm.trans hf) |>.symm
  obtain rfl : fn = Tryz.f4 := (Option.some.inj (Tryz.func4.symm.trans hfn)).symm
  refine ⟨WB.looks, fun j t ht => ?_⟩
  rw [Tryz.params4] at ht
  rcases (by simpa using Array.mem_of_getElem? ht : t = 39 ∨ t = 42) with rfl | rfl
  · exact (show Tryz.prog.wantsStandIn 39 = false by kernel_rfl)
  · exact (show Tryz.prog.wantsStandIn 42 = false by kernel_rfl)
theorem catalogAtomic_holds : Rows.CatalogAtomicUptoCardSaid :=
  Claim7.holds_tied_plain_at .later [] _ _ _ _ saidUpto13a (fun _ h => by cases h) (by kernel_rfl) (fun _ h => by cases h) catalogAtomicUpto_row_tie rfl ⟨rfl, rfl⟩ (by kernel_rfl) rfl plain13a (by kernel_rfl)
end Go.Proofs.YteejmoldhbfdnaaGreatDoor
