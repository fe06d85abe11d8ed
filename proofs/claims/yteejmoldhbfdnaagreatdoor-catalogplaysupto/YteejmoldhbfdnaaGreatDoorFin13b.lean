/- CatalogPlays holds: for every input of at most 1048576 values and letters the call returns true and leaves its arguments as they were. Second form, tied card. Printed by cards.py. -/
import Derived.Test.YteejmoldhbfdnaaGreatDoorCard13b
import Derived.Test.YteejmoldhbfdnaaGreatDoorTie
namespace Go.Proofs.YteejmoldhbfdnaaGreatDoor
open Go.ChangeShapes Go.WideShapes Go.ChangeAt Go.RowKit Go.Deep Go.W Seal
theorem plain13b (f : FuncId) (fn : Func) (hf : Tryz.pinned.checked.prog.funcNamed "warren/warrenlaw13.CatalogPlays" = some f) (hfn : Tryz.pinned.checked.prog.funcs[f]? = some fn) :
    true = Tryz.pinned.checked.prog.looks [] ∧ ∀ (j : Nat) t, fn.params[j]? = some t → Tryz.pinned.checked.prog.wantsStandIn t = false := by
  obtain rfl : f = 5 := Option.some.inj (name13b.symm.trans hf) |>.symm
  obtain rfl : fn = Tryz.f5 := (Option.some.inj (Tryz.func5.symm.trans hfn)).symm
  refine ⟨WB.looks, fun j t ht => ?_⟩
  rw [Tryz.params5] at ht
  obtain rfl : t = 61 := by simpa using Array.mem_of_getElem? ht
  exact (show Tryz.prog.wantsStandIn 61 = false by kernel_rfl)
theorem catalogPlays_holds : Rows.CatalogPlaysUptoCardSaid :=
  Claim7.holds_tied_plain_at .later [] _ _ _ _ saidUpto13b (fun _ h => by cases h) (by kernel_rfl) (fun _ h => by cases h) catalogPlaysUpto_row_tie rfl ⟨rfl, rfl⟩ (by kernel_rfl) rfl plain13b (by kernel_rfl)
end Go.Proofs.YteejmoldhbfdnaaGreatDoor
