/- The bound on the bulk, for rows of octets. -/
import Derived.Test.YteejmoldhbfdnaaGreatDoorRows
import Derived.Deep.Matrix
namespace Go.Proofs.YteejmoldhbfdnaaGreatDoor
open Go.Deep Go.ChangeShapes
section
variable {H : Type}
theorem bulk_pos (d : DataW H) : 1 ≤ Rows.uptoBulk d := by
  cases d with
  | lit l => cases l <;> simp [Rows.uptoBulk]
  | _ => simp [Rows.uptoBulk]
theorem bulk_len : ∀ ds : List (DataW H), ds.length ≤ Rows.uptoBulkAll ds
  | [] => by simp
  | d :: r => by
    have h1 := bulk_pos d
    have h2 := bulk_len r
    simp only [Rows.uptoBulkAll, List.length_cons]
    omega
theorem bulk_append : ∀ ds es : List (DataW H), Rows.uptoBulkAll (ds ++ es) = Rows.uptoBulkAll ds + Rows.uptoBulkAll es
  | [], es => by simp [Rows.uptoBulkAll]
  | d :: r, es => by simp [Rows.uptoBulkAll, bulk_append r es, Nat.add_assoc]
theorem bulk_row {k : IntKind} {A : Option Addr} {L : Nat} {zs : List Int} (h1 : L ≤ zs.length) (h3 : A = none → zs.length = 0) : L + 1 ≤ Rows.uptoBulk (intRow (H := H) k A L zs) := by
  cases A with
  | none => have := h3 rfl; simp [intRow, Rows.uptoBulk]; omega
  | some a =>
    have := bulk_len (lits (H := H) k (zs.take L))
    simp only [intRow, Rows.uptoBulk]
    simp [lits] at this ⊢
    omega
theorem bulk_rows {L : Nat → Nat} {f : Nat → DataW H} : ∀ n, (∀ r, r < n → L r + 1 ≤ Rows.uptoBulk (f r)) → ((List.range n).map fun r => L r + 64).sum ≤ 64 * Rows.uptoBulkAll ((List.range n).map f)
  | 0, _ => by simp
  | n + 1, h => by
    have h1 := bulk_rows n fun r hr => h r (by omega)
    have h2 := h n (by omega)
    rw [List.range_succ, List.map_append, List.map_append, List.sum_append, bulk_append]
    simp only [List.map_cons, List.map_nil, List.sum_cons, List.sum_nil, Rows.uptoBulkAll]
    omega
end
end Go.Proofs.YteejmoldhbfdnaaGreatDoor
