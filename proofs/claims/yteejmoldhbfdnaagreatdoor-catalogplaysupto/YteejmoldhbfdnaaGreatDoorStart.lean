/- The world at a law's start as the base heap. -/
import Derived.Test.YteejmoldhbfdnaaGreatDoorWal3
import Derived.Deep.Matrix
namespace Go.W
open Go.RowKit
/-- All blocks of a world. -/
def baseOf (W : World) : Hp := W.heap.toList.zipIdx.map fun x => (x.2, x.1)
def ctxOf (W : World) : Ctx := ⟨W.os, W.tape, W.output, baseOf W⟩
theorem mem_base {W : World} {b : Nat} {o : Obj} : (b, o) ∈ baseOf W ↔ W.heap[b]? = some o := by
  unfold baseOf
  rw [List.mem_map]
  constructor
  · rintro ⟨⟨o', i⟩, h, e⟩
    simp only [Prod.mk.injEq] at e
    obtain ⟨rfl, rfl⟩ := e
    have := List.mk_mem_zipIdx_iff_getElem?.1 h
    simpa using this
  · intro h
    exact ⟨(o, b), List.mk_mem_zipIdx_iff_getElem?.2 (by simpa using h), rfl⟩
theorem owns0 (W : World) : Owns (ctxOf W) W [] := by
  refine ⟨rfl, rfl, rfl, ⟨?_, ?_⟩⟩
  · have e1 : (baseOf W).map Prod.fst = List.range W.heap.size := by
      unfold baseOf
      rw [List.map_map]
      have : (Prod.fst ∘ fun x : Obj × Nat => (x.2, x.1)) = Prod.snd := by funext x; rfl
      rw [this, List.zipIdx_map_snd]
      simp [List.range_eq_range']
    simp only [ctxOf, List.flatten_nil, List.append_nil, e1]
    exact List.nodup_range
  · intro b o h
    simp only [ctxOf, List.flatten_nil, List.append_nil] at h
    exact mem_base.1 h
theorem Owns.keeps {W w : World} {As : List Hp} (h : Owns (ctxOf W) w As) {b : Nat} (hb : b < W.heap.size) : w.heap[b]? = W.heap[b]? := by
  have h1 : W.heap[b]? = some W.heap[b] := by simp [hb]
  rw [h1]
  exact h.own.get b _ (List.mem_append.2 (.inl (mem_base.2 h1)))
theorem Owns.below0 {W w : World} {As : List Hp} (h : Owns (ctxOf W) w As) : Below W.heap.size W w := by
  refine ⟨h.os, h.tape, h.output, ?_, fun b hb => h.keeps hb⟩
  rcases Nat.eq_zero_or_pos W.heap.size with h0 | h0
  · omega
  · have h1 := h.keeps (b := W.heap.size - 1) (by omega)
    rcases Nat.lt_or_ge (W.heap.size - 1) w.heap.size with h2 | h2
    · omega
    · rw [Array.getElem?_eq_none h2, Array.getElem?_eq_getElem (by omega)] at h1
      cases h1
/-- A slice whose cells are all known can be read in the base. -/
theorem sl_base {W : World} {a : Addr} {n cap : Nat} {vs : List Value} (hn : n ≤ cap) (hl : vs.length = n) (hc : ∀ i v, vs[i]? = some v → W.cell? (a.add i) = some v) : Sl (baseOf W) 1 (.slice (some a) n cap) n vs := by
  refine ⟨by omega, ?_⟩
  rcases Nat.eq_zero_or_pos n with h0 | h0
  · subst h0; exact .inl ⟨⟨_, _, rfl⟩, rfl⟩
  · refine .inr ?_
    obtain ⟨b, o, spot⟩ := a
    obtain ⟨v0, hv0⟩ : ∃ v, vs[0]? = some v := ⟨vs[0], List.getElem?_eq_getElem (by omega)⟩
    have g0 := hc 0 v0 hv0
    have hsp : spot = none := by simpa [Addr.add] using World.cell?_spot g0
    subst hsp
    obtain ⟨cs, T, fz, hb⟩ : ∃ cs T fz, W.heap[b]? = some (.cells cs T fz) := by
      unfold World.cell? at g0
      have hadd : (⟨b, o, none⟩ : Addr).add 0 = ⟨b, o, none⟩ := by rw [addr_add]; rfl
      rw [hadd] at g0
      dsimp only at g0
      split at g0
      · rename_i c t f hh; exact ⟨c, t, f, hh⟩
      · cases g0
    refine ⟨b, o, cap, cs, T, fz, rfl, hn, mem_base.2 hb, ?_⟩
    apply List.ext_getElem?
    intro i
    rw [List.getElem?_take, Nat.mul_one]
    split
    · rename_i hi
      have hvi : vs[i]? = some vs[i] := List.getElem?_eq_getElem (by omega)
      have := hc i _ hvi
      rw [addr_add] at this
      simp only [World.cell?, hb] at this
      rw [hvi, List.getElem?_drop]
      simpa using this
    · rw [List.getElem?_eq_none (by omega)]
end Go.W
