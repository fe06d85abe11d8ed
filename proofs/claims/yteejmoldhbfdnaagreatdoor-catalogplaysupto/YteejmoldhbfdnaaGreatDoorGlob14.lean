/- The start's heap: the tables and the errors that the rows' list lays. -/
import Derived.Test.YteejmoldhbfdnaaGreatDoorLaid14
namespace Go.Proofs.YteejmoldhbfdnaaGreatDoor
open Go.W Go.RowKit Seal
theorem gl0 : Tryz.prog.globalNamed "warren/seal.nibble" = some 0 := by kernel_rfl
theorem gl2 : Tryz.prog.globalNamed "strconv.ErrSyntax" = some 2 := by kernel_rfl
theorem gl3 : Tryz.prog.globalNamed "strconv.ErrRange" = some 3 := by kernel_rfl
theorem gl4 : Tryz.prog.globalNamed "internal/strconv.uint64pow10" = some 4 := by kernel_rfl
theorem gt0 : (Tryz.prog.globals[0]?).map (·.type) = some 372 := by kernel_rfl
theorem gt2 : (Tryz.prog.globals[2]?).map (·.type) = some 283 := by kernel_rfl
theorem gt3 : (Tryz.prog.globals[3]?).map (·.type) = some 283 := by kernel_rfl
theorem gt4 : (Tryz.prog.globals[4]?).map (·.type) = some 392 := by kernel_rfl
theorem gc372 : Tryz.prog.cellsOf 372 = 16 := by kernel_rfl
theorem gc392 : Tryz.prog.cellsOf 392 = 20 := by kernel_rfl
theorem gc317 : Tryz.prog.cellsOf 317 = 1 := by kernel_rfl
theorem gc319 : Tryz.prog.cellsOf 319 = 1 := by kernel_rfl
theorem var_block {W : World} {P : Program} {n : String} {g : Nat} {cs : Array Value} (hg : P.globalNamed n = some g) (h : W.var? P n = some cs) : ∃ T fz, W.heap[g]? = some (.cells cs T fz) := by
  simp only [World.var?, hg, Option.bind_some] at h
  split at h
  · rename_i c t f hh; cases h; exact ⟨t, f, hh⟩
  · cases h
theorem glob_of {W : World} (h : laidMetH Tryz.prog Rows.bodiesFullRow.laid W) : Wal.Glob (ctxOf W) ∧ Kit.HasErr (ctxOf W) := by
  have h' : laidMet Tryz.prog Rows.bodiesFullRow.laid W := h
  have hn : Lib.TabIs Tryz.prog W "warren/seal.nibble" .u32 nib := laid_tab gl0 gt0 Tryz.underlying372 Tryz.underlying317 gc317 gc372 h' (by simp [Rows.bodiesFullRow, Rows.laid_warren_seal_nibble, Lib.tabData, nib])
  have hp : Lib.TabIs Tryz.prog W "internal/strconv.uint64pow10" .u64 Lib.pow10Tab := laid_tab gl4 gt4 Tryz.underlying392 Tryz.underlying319 gc319 gc392 h' (by simp [Rows.bodiesFullRow, Rows.laid_internal_strconv_uint64pow10, Lib.tabData, Lib.pow10Tab]; try rfl)
  obtain ⟨u2, v2, h2⟩ := laid_iface gl2 gt2 Tryz.underlying283 h' (name := "strconv.ErrSyntax") (tn := "*errors.errorString") (d := .ptr (.agg [.lit (.string [105, 110, 118, 97, 108, 105, 100, 32, 115, 121, 110, 116, 97, 120])])) (by simp [Rows.bodiesFullRow, Rows.laid_strconv_ErrSyntax])
  obtain ⟨u3, v3, h3⟩ := laid_iface gl3 gt3 Tryz.underlying283 h' (name := "strconv.ErrRange") (tn := "*errors.errorString") (d := .ptr (.agg [.lit (.string [118, 97, 108, 117, 101, 32, 111, 117, 116, 32, 111, 102, 32, 114, 97, 110, 103, 101])])) (by simp [Rows.bodiesFullRow, Rows.laid_strconv_ErrRange])
  refine ⟨⟨?_, ?_⟩, ?_⟩
  · obtain ⟨T, fz, hb⟩ := var_block gl0 hn
    exact ⟨T, fz, mem_base.2 hb⟩
  · intro w As hw
    obtain ⟨T, fz, hb⟩ := var_block gl4 hp
    have hlt : 4 < W.heap.size := (Array.getElem?_eq_some_iff.1 hb).1
    unfold Lib.TabIs World.var?
    rw [gl4, Option.bind_some, hw.keeps hlt, hb]
  · intro w As hw
    have l2 : 2 < W.heap.size := World.block_lt_of_cell? _ _ h2
    have l3 : 3 < W.heap.size := World.block_lt_of_cell? _ _ h3
    refine ⟨⟨u2, v2, ?_⟩, ⟨u3, v3, ?_⟩⟩
    · rw [← h2]; unfold World.cell?; rw [hw.keeps l2]
    · rw [← h3]; unfold World.cell?; rw [hw.keeps l3]
end Go.Proofs.YteejmoldhbfdnaaGreatDoor
