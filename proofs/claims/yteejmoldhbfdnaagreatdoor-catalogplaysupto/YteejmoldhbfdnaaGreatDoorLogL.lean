/- Records that stand wrapped one behind the other: plain laws. -/
import Derived.Test.YteejmoldhbfdnaaGreatDoorWal3
namespace Go.Proofs.YteejmoldhbfdnaaGreatDoor.LogL
open Go.W Go.RowKit Oct OctR Seal
theorem bit32 (op : BinOp) (a b : Int) : 0 ≤ bitop op .u32 a b ∧ bitop op .u32 a b < 2 ^ 32 := by
  have h : ∀ z : Int, 0 ≤ IntKind.u32.wrap z ∧ IntKind.u32.wrap z < 2 ^ 32 := fun z => by
    have : IntKind.u32.wrap z = z % 4294967296 := by simp [IntKind.wrap, IntKind.bits, IntKind.signed]
    rw [this]; omega
  unfold bitop
  cases op <;> first | exact h _ | (dsimp only; omega)
theorem sumOf_range (d : Str) : 0 ≤ sumOf d ∧ sumOf d < 2 ^ 32 := by
  unfold sumOf
  have h := bit32 .xor (ov (ov 4294967295 (be 4 d.length)) d) 4294967295
  rw [IntWalk.i64_in _ (by omega)]
  exact h
theorem unwrap_wrapped {d rest : Str} (h : d.length ≤ 1048576) : unwrapF (wrapped d ++ rest) = some d := by
  have h4 : (be 4 (d.length : Int)).length = 4 := be_length 4 _
  have h4' : (be 4 (sumOf d)).length = 4 := be_length 4 _
  have hs := sumOf_range d
  have t4 : (wrapped d ++ rest).take 4 = be 4 d.length := by
    unfold wrapped; rw [List.append_assoc, List.append_assoc]; exact List.take_left' h4
  have d4 : (wrapped d ++ rest).drop 4 = be 4 (sumOf d) ++ (d ++ rest) := by
    unfold wrapped; rw [List.append_assoc, List.append_assoc]; exact List.drop_left' h4
  have t8 : ((wrapped d ++ rest).drop 4).take 4 = be 4 (sumOf d) := by rw [d4]; exact List.take_left' h4'
  have d8 : (wrapped d ++ rest).drop 8 = d ++ rest := by
    have : (wrapped d ++ rest).drop 8 = ((wrapped d ++ rest).drop 4).drop 4 := by rw [List.drop_drop]
    rw [this, d4]; exact List.drop_left' h4'
  have hl : (wrapped d ++ rest).length = 8 + d.length + rest.length := by rw [List.length_append, wrapped_length]
  unfold unwrapF
  rw [if_neg (by omega), t4, rd_be4 (by omega) (by omega), t8, d8, rd_be4 hs.1 hs.2]
  dsimp only
  rw [if_neg (by omega), Int.toNat_natCast, List.take_left' rfl, if_pos]
  rfl
theorem unwrap_nil : unwrapF [] = none := by unfold unwrapF; rw [if_pos (by simp)]
/-- Records, and behind them what isn't one. -/
theorem Wh_rest {rest : Str} (hr : unwrapF rest = none) : ∀ {recs : List Str}, (∀ d ∈ recs, d.length ≤ 1048576) → Wh ((recs.map wrapped).flatten ++ rest) recs ((recs.map wrapped).flatten).length
  | [], _ => by simpa using .stop hr
  | d :: ds, h => by
    have hd := h d (.head _)
    have ih := Wh_rest hr (recs := ds) fun x hx => h x (.tail _ hx)
    have e1 : ((d :: ds).map wrapped).flatten ++ rest = wrapped d ++ ((ds.map wrapped).flatten ++ rest) := by simp
    have e2 : (((d :: ds).map wrapped).flatten).length = 8 + d.length + ((ds.map wrapped).flatten).length := by simp [wrapped_length]
    rw [e1, e2]
    refine .step (unwrap_wrapped hd) ?_
    rw [List.drop_left' (wrapped_length d)]
    exact ih
theorem Wh_recs {recs : List Str} (h : ∀ d ∈ recs, d.length ≤ 1048576) : Wh ((recs.map wrapped).flatten) recs ((recs.map wrapped).flatten).length := by
  have := Wh_rest unwrap_nil h
  simpa using this
end Go.Proofs.YteejmoldhbfdnaaGreatDoor.LogL
