/- A world in which the rows' listed variables are laid; the program's facts that every row asks for. -/
import Derived.Test.YteejmoldhbfdnaaGreatDoorGlob14
import Derived.Test.YteejmoldhbfdnaaGreatDoorBulk
import Derived.Test.YteejmoldhbfdnaaGreatDoorTie
import Derived.WalkKit
import Derived.ProofKit
import Derived.OpenShut
import Derived.Deep.DeepHandedRow
import Derived.Deep.DeepWitnessRowRef
import Derived.Deep.DeepLaidRun
namespace Go.Proofs.YteejmoldhbfdnaaGreatDoor.WB
open Go.ChangeShapes Go.WideShapes Go.ChangeAt Go.RowKit Go.Deep Go.W Seal
theorem own : ownKnob Tryz.prog.godebug = none := by kernel_rfl
theorem laidOut : laidOutB Tryz.prog = true := by kernel_rfl
theorem looks : true = Tryz.prog.looks [] := by kernel_rfl
def tabOf (k : IntKind) : DataW Unit → Array Value
  | .agg xs => (xs.map fun x => match x with | .lit (.int _ z) => Value.int k z | _ => .int k 0).toArray
  | _ => #[]
noncomputable abbrev N0 (os : Os) : Nat := (World.settled Tryz.prog os).heap.size
noncomputable def laidWorld (os : Os) : World :=
  let w := World.holding Tryz.prog os ⟨#[.cells #[.string ⟨#[105, 110, 118, 97, 108, 105, 100, 32, 115, 121, 110, 116, 97, 120]⟩] 406 (0, 0), .cells #[.string ⟨#[118, 97, 108, 117, 101, 32, 111, 117, 116, 32, 111, 102, 32, 114, 97, 110, 103, 101]⟩] 406 (0, 0)], #[], []⟩
  let set (h : Array Obj) (b : Nat) (cs : Array Value) : Array Obj := h.modify b fun
    | .cells _ t fz => .cells cs t fz
    | o => o
  { w with heap := set (set (set (set (set (set w.heap 0 (tabOf .u32 Rows.laid_warren_seal_nibble)) 2 #[.iface 404 (.pointer (some ⟨N0 os, 0, none⟩))]) 3 #[.iface 404 (.pointer (some ⟨N0 os + 1, 0, none⟩))])
      4 (tabOf .u64 Rows.laid_internal_strconv_uint64pow10)) 5 (tabOf .u8 Rows.laid_math_bits_deBruijn32tab)) 6 (tabOf .u8 Rows.laid_math_bits_deBruijn64tab) }
end Go.Proofs.YteejmoldhbfdnaaGreatDoor.WB
