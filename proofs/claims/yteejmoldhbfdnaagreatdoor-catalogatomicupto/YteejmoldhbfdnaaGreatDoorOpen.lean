/- Arguments read in the base heap: slices of whatever elements, structs, strings, numbers. -/
import Derived.Test.YteejmoldhbfdnaaGreatDoorRows0
import Derived.Test.YteejmoldhbfdnaaGreatDoorFlat
import Derived.Deep.Slices
import Derived.ChangeSame
namespace Go.W
open Go.RowKit Go.Deep Go.ChangeShapes Go.WideShapes
theorem sl_baseN {W : World} {a : Addr} {k n cap : Nat} {vs : List Value} (hk : 0 < k) (hn : n ≤ cap) (hl : vs.length = n * k) (hc : ∀ i v, vs[i]? = some v → W.cell? (a.add i) = some v) : Sl (baseOf W) k (.slice (some a) n cap) n vs := by
  refine ⟨hl, ?_⟩
  rcases Nat.eq_zero_or_pos n with h0 | h0
  · subst h0; exact .inl ⟨⟨_, _, rfl⟩, rfl⟩
  · refine .inr ?_
    obtain ⟨b, o, spot⟩ := a
    have hpos : 0 < n * k := Nat.mul_pos h0 hk
    obtain ⟨v0, hv0⟩ : ∃ v, vs[0]? = some v := ⟨vs[0], List.getElem?_eq_getElem (by omega)⟩
    have g0 := hc 0 v0 hv0
    have hsp : spot = none := by simpa [Addr.add] using World.cell?_spot g0
    subst hsp
    obtain ⟨cs, T, fz, hb⟩ : ∃ cs T fz, W.heap[b]? = some (.cells cs T fz) := by
      unfold World.cell? at g0
      have hadd : (⟨b, o, none⟩ : Addr).add 0 = ⟨b, o, none⟩ := by rw [addr_add]; rfl
      rw [hadd] at g0
      dsimp only at g0
      split at g0
      · rename_i c t f hh; exact ⟨c, t, f, hh⟩
      · cases g0
    refine ⟨b, o, cap, cs, T, fz, rfl, hn, mem_base.2 hb, ?_⟩
    apply List.ext_getElem?
    intro i
    rw [List.getElem?_take]
    split
    · rename_i hi
      have hvi : vs[i]? = some vs[i] := List.getElem?_eq_getElem (by omega)
      have := hc i _ hvi
      rw [addr_add] at this
      simp only [World.cell?, hb] at this
      rw [hvi, List.getElem?_drop]
      simpa using this
    · rw [List.getElem?_eq_none (by omega)]
section
variable {H : Type} {enc : TypeId × Value → H} {P : Program} {W : World} {base : Nat} {held : Bool}
/-- A slice, whatever its elements. -/
theorem openSl {t e k fuel : Nat} {cs : List Value} {x : DataW H × List MemPlace} (ht : P.underlying t = some (.slice e)) (hc : P.cellsOf e = k) (hk : 0 < k) (h : DataW.trod enc P W base (fun _ => true) held fuel t cs = some x) :
    ∃ (v : Value) (css : List (List Value)) (ds : List (DataW H)) (n : Nat), cs = [v] ∧ Sl (baseOf W) k v css.length css.flatten ∧ (∀ c ∈ css, c.length = k) ∧ ds.length = css.length ∧ ((x.1 = .nil ∧ ds = []) ∨ ∃ rest, x.1 = .slice ds rest) ∧
      ∀ (i : Nat) (c : List Value) (d : DataW H), css[i]? = some c → ds[i]? = some d → ∃ p, DataW.trod enc P W base (fun _ => true) held n e c = some (d, p) := by
  subst hc
  rcases open_slice ht h with ⟨rfl, rfl⟩ | ⟨a, len, cap, m, n, D, Pl, rfl, hb, hl, hm, hmm, rfl, hx⟩
  · exact ⟨.slice none 0 0, [], [], 0, rfl, ⟨by simp, .inl ⟨⟨_, _, rfl⟩, rfl⟩⟩, by simp, rfl, .inl ⟨rfl, rfl⟩, by simp⟩
  · simp only [if_true] at hmm
    obtain ⟨C, hC⟩ := choose_lt (α := List Value) hx
    have hlen : ∀ i, i < m → (C i).length = P.cellsOf e := fun i hi => (World.cells?_some (hC i hi).1).2.1
    have hall : ∀ c ∈ (List.range len).map C, c.length = P.cellsOf e := by
      intro c hc
      obtain ⟨i, hi, rfl⟩ := List.mem_map.1 hc
      exact hlen i (by have := List.mem_range.1 hi; omega)
    have hgi : ∀ i c, ((List.range len).map C)[i]? = some c → i < len ∧ C i = c := by
      intro i c hi
      rw [List.getElem?_map] at hi
      obtain ⟨r, hr, rfl⟩ := Option.map_eq_some_iff.1 hi
      obtain ⟨hr1, hr2⟩ := List.getElem?_eq_some_iff.1 hr
      simp only [List.length_range] at hr1
      simp only [List.getElem_range] at hr2
      subst hr2
      exact ⟨hr1, rfl⟩
    refine ⟨_, (List.range len).map C, (List.range len).map D, n, rfl, ?_, hall, by simp, .inr ⟨_, rfl⟩, ?_⟩
    · rw [List.length_map, List.length_range]
      refine sl_baseN hk hl (by rw [flatten_len hall]; simp) fun i v hi => ?_
      have hil : i < len * P.cellsOf e := by
        have := (List.getElem?_eq_some_iff.1 hi).1
        rw [flatten_len hall] at this; simpa using this
      have hq : i / P.cellsOf e < len := Nat.div_lt_of_lt_mul (by rw [Nat.mul_comm]; exact hil)
      have hr : i % P.cellsOf e < P.cellsOf e := Nat.mod_lt _ hk
      have hsplit : i / P.cellsOf e * P.cellsOf e + i % P.cellsOf e = i := by rw [Nat.mul_comm]; exact Nat.div_add_mod i _
      have hCi : ((List.range len).map C)[i / P.cellsOf e]? = some (C (i / P.cellsOf e)) := by simp [hq]
      rw [← hsplit, flatten_get hall hCi hr] at hi
      have := (World.cells?_some (hC _ (show i / P.cellsOf e < m by omega)).1).2.2 _ hr
      rw [hi, Go.Deep.add_add, hsplit] at this
      exact this
    · intro i c d hi hd
      obtain ⟨h1, rfl⟩ := hgi i c hi
      have hd2 : D i = d := by
        rw [List.getElem?_map] at hd
        simpa [h1] using hd
      subst hd2
      exact ⟨_, (hC i (by omega)).2⟩
theorem openStr {t fuel : Nat} {cs : List Value} {x : DataW H × List MemPlace} (ht : P.underlying t = some .string) (h : DataW.trod enc P W base (fun _ => true) held fuel t cs = some x) :
    ∃ s : Str, cs = [S s] ∧ x.1 = .lit (.string s) := by
  cases fuel with
  | zero => simp [DataW.trod] at h
  | succ n =>
    unfold DataW.trod at h
    rw [ht] at h
    split at h <;> try (cases h; done)
    all_goals first | (exfalso; simp_all; done) | skip
    rename_i s hu
    split at h
    · cases h; exact ⟨s.data.toList, rfl, rfl⟩
    · cases h
theorem openBool {t fuel : Nat} {cs : List Value} {x : DataW H × List MemPlace} (ht : P.underlying t = some .bool) (h : DataW.trod enc P W base (fun _ => true) held fuel t cs = some x) :
    ∃ b, cs = [.bool b] ∧ x.1 = .lit (.bool b) := by
  cases fuel with
  | zero => simp [DataW.trod] at h
  | succ n =>
    unfold DataW.trod at h
    rw [ht] at h
    split at h <;> try (cases h; done)
    all_goals first | (exfalso; simp_all; done) | skip
    cases h
    exact ⟨_, rfl, rfl⟩
theorem openInt {t fuel : Nat} {k : IntKind} {cs : List Value} {x : DataW H × List MemPlace} (ht : P.underlying t = some (.int k)) (h : DataW.trod enc P W base (fun _ => true) held fuel t cs = some x) :
    ∃ z, cs = [.int k z] ∧ x.1 = .lit (.int k z) ∧ (Lit.int k z).wf = true := by
  cases fuel with
  | zero => simp [DataW.trod] at h
  | succ n =>
    unfold DataW.trod at h
    rw [ht] at h
    split at h <;> try (cases h; done)
    all_goals first | (exfalso; simp_all; done) | skip
    rename_i k1 k2 z hu
    cases hu
    split at h
    · rename_i hw
      cases h
      obtain ⟨rfl, hw⟩ := hw
      exact ⟨z, rfl, rfl, hw⟩
    · cases h
end
end Go.W
