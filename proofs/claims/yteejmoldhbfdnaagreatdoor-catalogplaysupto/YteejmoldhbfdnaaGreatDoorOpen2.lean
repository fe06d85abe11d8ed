/- Arguments opened: slices, structs, strings, numbers in the base heap; lists of the models. -/
import Derived.Test.YteejmoldhbfdnaaGreatDoorRows0
import Derived.Test.YteejmoldhbfdnaaGreatDoorFlat
import Derived.Deep.Slices
import Derived.ChangeSame
import Derived.Test.YteejmoldhbfdnaaGreatDoorBulk
import Derived.Test.YteejmoldhbfdnaaGreatDoorCatL
import Derived.Deep.Strs
namespace Go.W
open Go.RowKit Go.Deep Go.ChangeShapes Go.WideShapes
theorem sl_baseN {W : World} {a : Addr} {k n cap : Nat} {vs : List Value} (hk : 0 < k) (hn : n ≤ cap) (hl : vs.length = n * k) (hc : ∀ i v, vs[i]? = some v → W.cell? (a.add i) = some v) : Sl (baseOf W) k (.slice (some a) n cap) n vs := by
  refine ⟨hl, ?_⟩
  rcases Nat.eq_zero_or_pos n with h0 | h0
  · subst h0; exact .inl ⟨⟨_, _, rfl⟩, rfl⟩
  · refine .inr ?_
    obtain ⟨b, o, spot⟩ := a
    have hpos : 0 < n * k := Nat.mul_pos h0 hk
    obtain ⟨v0, hv0⟩ : ∃ v, vs[0]? = some v := ⟨vs[0], List.getElem?_eq_getElem (by omega)⟩
    have g0 := hc 0 v0 hv0
    have hsp : spot = none := by simpa [Addr.add] using World.cell?_spot g0
    subst hsp
    obtain ⟨cs, T, fz, hb⟩ : ∃ cs T fz, W.heap[b]? = some (.cells cs T fz) := by
      unfold World.cell? at g0
      have hadd : (⟨b, o, none⟩ : Addr).add 0 = ⟨b, o, none⟩ := by rw [addr_add]; rfl
      rw [hadd] at g0
      dsimp only at g0
      split at g0
      · rename_i c t f hh; exact ⟨c, t, f, hh⟩
      · cases g0
    refine ⟨b, o, cap, cs, T, fz, rfl, hn, mem_base.2 hb, ?_⟩
    apply List.ext_getElem?
    intro i
    rw [List.getElem?_take]
    split
    · rename_i hi
      have hvi : vs[i]? = some vs[i] := List.getElem?_eq_getElem (by omega)
      have := hc i _ hvi
      rw [addr_add] at this
      simp only [World.cell?, hb] at this
      rw [hvi, List.getElem?_drop]
      simpa using this
    · rw [List.getElem?_eq_none (by omega)]
section
variable {H : Type} {enc : TypeId × Value → H} {P : Program} {W : World} {base : Nat} {held : Bool}
/-- A slice, whatever its elements. -/
theorem openSl {t e k fuel : Nat} {cs : List Value} {x : DataW H × List MemPlace} (ht : P.underlying t = some (.slice e)) (hc : P.cellsOf e = k) (hk : 0 < k) (h : DataW.trod enc P W base (fun _ => true) held fuel t cs = some x) :
    ∃ (v : Value) (css : List (List Value)) (ds : List (DataW H)) (n : Nat), cs = [v] ∧ Sl (baseOf W) k v css.length css.flatten ∧ (∀ c ∈ css, c.length = k) ∧ ds.length = css.length ∧ ((x.1 = .nil ∧ ds = []) ∨ ∃ rest, x.1 = .slice ds rest) ∧
      ∀ (i : Nat) (c : List Value) (d : DataW H), css[i]? = some c → ds[i]? = some d → ∃ p, DataW.trod enc P W base (fun _ => true) held n e c = some (d, p) := by
  subst hc
  rcases open_slice ht h with ⟨rfl, rfl⟩ | ⟨a, len, cap, m, n, D, Pl, rfl, hb, hl, hm, hmm, rfl, hx⟩
  · exact ⟨.slice none 0 0, [], [], 0, rfl, ⟨by simp, .inl ⟨⟨_, _, rfl⟩, rfl⟩⟩, by simp, rfl, .inl ⟨rfl, rfl⟩, by simp⟩
  · simp only [if_true] at hmm
    obtain ⟨C, hC⟩ := choose_lt (α := List Value) hx
    have hlen : ∀ i, i < m → (C i).length = P.cellsOf e := fun i hi => (World.cells?_some (hC i hi).1).2.1
    have hall : ∀ c ∈ (List.range len).map C, c.length = P.cellsOf e := by
      intro c hc
      obtain ⟨i, hi, rfl⟩ := List.mem_map.1 hc
      exact hlen i (by have := List.mem_range.1 hi; omega)
    have hgi : ∀ i c, ((List.range len).map C)[i]? = some c → i < len ∧ C i = c := by
      intro i c hi
      rw [List.getElem?_map] at hi
      obtain ⟨r, hr, rfl⟩ := Option.map_eq_some_iff.1 hi
      obtain ⟨hr1, hr2⟩ := List.getElem?_eq_some_iff.1 hr
      simp only [List.length_range] at hr1
      simp only [List.getElem_range] at hr2
      subst hr2
      exact ⟨hr1, rfl⟩
    refine ⟨_, (List.range len).map C, (List.range len).map D, n, rfl, ?_, hall, by simp, .inr ⟨_, rfl⟩, ?_⟩
    · rw [List.length_map, List.length_range]
      refine sl_baseN hk hl (by rw [flatten_len hall]; simp) fun i v hi => ?_
      have hil : i < len * P.cellsOf e := by
        have := (List.getElem?_eq_some_iff.1 hi).1
        rw [flatten_len hall] at this; simpa using this
      have hq : i / P.cellsOf e < len := Nat.div_lt_of_lt_mul (by rw [Nat.mul_comm]; exact hil)
      have hr : i % P.cellsOf e < P.cellsOf e := Nat.mod_lt _ hk
      have hsplit : i / P.cellsOf e * P.cellsOf e + i % P.cellsOf e = i := by rw [Nat.mul_comm]; exact Nat.div_add_mod i _
      have hCi : ((List.range len).map C)[i / P.cellsOf e]? = some (C (i / P.cellsOf e)) := by simp [hq]
      rw [← hsplit, flatten_get hall hCi hr] at hi
      have := (World.cells?_some (hC _ (show i / P.cellsOf e < m by omega)).1).2.2 _ hr
      rw [hi, Go.Deep.add_add, hsplit] at this
      exact this
    · intro i c d hi hd
      obtain ⟨h1, rfl⟩ := hgi i c hi
      have hd2 : D i = d := by
        rw [List.getElem?_map] at hd
        simpa [h1] using hd
      subst hd2
      exact ⟨_, (hC i (by omega)).2⟩
theorem openStr {t fuel : Nat} {cs : List Value} {x : DataW H × List MemPlace} (ht : P.underlying t = some .string) (h : DataW.trod enc P W base (fun _ => true) held fuel t cs = some x) :
    ∃ s : Str, cs = [S s] ∧ x.1 = .lit (.string s) := by
  cases fuel with
  | zero => simp [DataW.trod] at h
  | succ n =>
    unfold DataW.trod at h
    rw [ht] at h
    split at h <;> try (cases h; done)
    all_goals first | (exfalso; simp_all; done) | skip
    rename_i s hu
    split at h
    · cases h; exact ⟨s.data.toList, rfl, rfl⟩
    · cases h
theorem openBool {t fuel : Nat} {cs : List Value} {x : DataW H × List MemPlace} (ht : P.underlying t = some .bool) (h : DataW.trod enc P W base (fun _ => true) held fuel t cs = some x) :
    ∃ b, cs = [.bool b] ∧ x.1 = .lit (.bool b) := by
  cases fuel with
  | zero => simp [DataW.trod] at h
  | succ n =>
    unfold DataW.trod at h
    rw [ht] at h
    split at h <;> try (cases h; done)
    all_goals first | (exfalso; simp_all; done) | skip
    cases h
    exact ⟨_, rfl, rfl⟩
theorem openInt {t fuel : Nat} {k : IntKind} {cs : List Value} {x : DataW H × List MemPlace} (ht : P.underlying t = some (.int k)) (h : DataW.trod enc P W base (fun _ => true) held fuel t cs = some x) :
    ∃ z, cs = [.int k z] ∧ x.1 = .lit (.int k z) ∧ (Lit.int k z).wf = true := by
  cases fuel with
  | zero => simp [DataW.trod] at h
  | succ n =>
    unfold DataW.trod at h
    rw [ht] at h
    split at h <;> try (cases h; done)
    all_goals first | (exfalso; simp_all; done) | skip
    rename_i k1 k2 z hu
    cases hu
    split at h
    · rename_i hw
      cases h
      obtain ⟨rfl, hw⟩ := hw
      exact ⟨z, rfl, rfl, hw⟩
    · cases h
end
end Go.W
namespace Go.Proofs.YteejmoldhbfdnaaGreatDoor
open Go.ChangeShapes Go.WideShapes Go.RowKit Go.Deep Go.W CatL
theorem lists_of {H : Type} {α : Type} {cells : α → List Value} {wt : α → Nat} {Pd : α → Prop} {R : List Value → DataW H → Prop} (hel : ∀ c d, R c d → ∃ a, c = cells a ∧ wt a ≤ 64 * Rows.uptoBulk d ∧ Pd a) :
    ∀ {css : List (List Value)} {ds : List (DataW H)}, ds.length = css.length → (∀ (i : Nat) (c : List Value) (d : DataW H), css[i]? = some c → ds[i]? = some d → R c d) →
      ∃ xs : List α, css = xs.map cells ∧ (xs.map wt).sum ≤ 64 * Rows.uptoBulkAll ds ∧ (∀ a ∈ xs, Pd a)
  | [], [], _, _ => ⟨[], rfl, by simp, by simp⟩
  | c :: css, [], h, _ => by simp at h
  | [], d :: ds, h, _ => by simp at h
  | c :: css, d :: ds, h, hr => by
    obtain ⟨xs, h1, h2, h3⟩ := lists_of hel (css := css) (ds := ds) (by simpa using h) (fun i c' d' hc hd => hr (i + 1) c' d' (by simpa using hc) (by simpa using hd))
    obtain ⟨a, g1, g2, g3⟩ := hel c d (hr 0 c d rfl rfl)
    refine ⟨a :: xs, by rw [List.map_cons, ← g1, ← h1], ?_, ?_⟩
    · simp only [List.map_cons, List.sum_cons, Rows.uptoBulkAll]; omega
    · intro b hb
      rcases List.mem_cons.1 hb with rfl | hb
      · exact g3
      · exact h3 b hb
theorem flat_ones {α : Type} (f : α → Value) (l : List α) : (l.map fun b => [f b]).flatten = l.map f := by
  induction l with
  | nil => rfl
  | cons x xs ih => simp only [List.map_cons, List.flatten_cons, ih]; rfl
section
variable {H : Type} {enc : TypeId × Value → H} {W : World} {base : Nat} {held : Bool}
/-- A slice of elements that are read one by one. -/
theorem openList {α : Type} {cells : α → List Value} {wt : α → Nat} {Pd : α → Prop} {t e k fuel : Nat} {cs : List Value} {x : DataW H × List MemPlace} (ht : Tryz.prog.underlying t = some (.slice e)) (hc : Tryz.prog.cellsOf e = k) (hk : 0 < k)
    (h : DataW.trod enc Tryz.prog W base (fun _ => true) held fuel t cs = some x) (hel : ∀ (n : Nat) c d p, DataW.trod enc Tryz.prog W base (fun _ => true) held n e c = some (d, p) → ∃ a, c = cells a ∧ wt a ≤ 64 * Rows.uptoBulk d ∧ Pd a) :
    ∃ (v : Value) (xs : List α), cs = [v] ∧ Sl (baseOf W) k v xs.length (xs.map cells).flatten ∧ (xs.map wt).sum ≤ 64 * Rows.uptoBulk x.1 ∧ xs.length ≤ Rows.uptoBulk x.1 ∧ ∀ a ∈ xs, Pd a := by
  obtain ⟨v, css, ds, n, rfl, hs, _, hlen, hx, hr⟩ := openSl ht hc hk h
  obtain ⟨xs, rfl, h2, h3⟩ := lists_of (R := fun c d => ∃ p, DataW.trod enc Tryz.prog W base (fun _ => true) held n e c = some (d, p)) (fun c d ⟨p, q⟩ => hel n c d p q) hlen hr
  rw [List.length_map] at hs hlen
  have hb : Rows.uptoBulkAll ds ≤ Rows.uptoBulk x.1 := by
    rcases hx with ⟨_, rfl⟩ | ⟨rest, hx⟩
    · simp [Rows.uptoBulkAll]
    · rw [hx]; simp only [Rows.uptoBulk]; omega
  have hl := bulk_len ds
  exact ⟨v, xs, rfl, hs, by omega, by omega, h3⟩
theorem gc51 : Tryz.prog.cellsOf 51 = 3 := by kernel_rfl
theorem gc9 : Tryz.prog.cellsOf 9 = 1 := by kernel_rfl
theorem gc4 : Tryz.prog.cellsOf 4 = 1 := by kernel_rfl
theorem gc3 : Tryz.prog.cellsOf 3 = 1 := by kernel_rfl
theorem gc40 : Tryz.prog.cellsOf 40 = 1 := by kernel_rfl
theorem gc42 : Tryz.prog.cellsOf 42 = 2 := by kernel_rfl
theorem openChs {fuel : Nat} {cs : List Value} {x : DataW H × List MemPlace} (h : DataW.trod enc Tryz.prog W base (fun _ => true) held fuel 39 cs = some x) :
    ∃ (v : Value) (xs : List Ch), cs = [v] ∧ Sl (baseOf W) 3 v xs.length (chs xs) ∧ (xs.map chW).sum ≤ 64 * Rows.uptoBulk x.1 := by
  obtain ⟨v, xs, h1, h2, h3, _, _⟩ := openList (cells := chV) (wt := chW) (Pd := fun _ => True) Tryz.underlying39 gc51 (by decide) h fun n c d p hd => by
    obtain ⟨y0, y1, y2, m, hx, hl, t0, t1, t2⟩ := trod_struct3 Tryz.underlying51 hd
    dsimp only at t0 t1 t2
    rw [gc9] at t0 t1
    rw [gc4] at t2
    obtain ⟨s0, q0, z0⟩ := openStr Tryz.underlying9 t0
    obtain ⟨s1, q1, z1⟩ := openStr Tryz.underlying9 t1
    obtain ⟨b, q2, z2⟩ := openBool Tryz.underlying4 t2
    rw [gc51] at hl
    match c, hl with
    | [c0, c1, c2], _ =>
      simp at q0 q1 q2
      subst q0 q1 q2
      refine ⟨⟨s0, s1, b⟩, rfl, ?_, trivial⟩
      simp only [Prod.mk.injEq] at hx
      rw [hx.1, z0, z1, z2]
      simp only [Rows.uptoBulk, Rows.uptoBulkAll, chW]
      omega
  exact ⟨v, xs, h1, h2, h3⟩
theorem openFate {fuel : Nat} {cs : List Value} {x : DataW H × List MemPlace} (h : DataW.trod enc Tryz.prog W base (fun _ => true) held fuel 42 cs = some x) :
    ∃ (kv : Value) (keep : List Bool) (tear : Int), cs = [kv, .int .i64 tear] ∧ Sl (baseOf W) 1 kv keep.length (keep.map Value.bool) ∧ keep.length ≤ Rows.uptoBulk x.1 ∧ (Lit.int .i64 tear).wf = true := by
  obtain ⟨y0, y1, m, rfl, hl, t0, t1⟩ := trod_struct2 Tryz.underlying42 h
  dsimp only at t0 t1
  rw [gc40] at t0
  rw [gc3] at t1
  obtain ⟨v, xs, h1, h2, _, h4, _⟩ := openList (cells := fun b => [Value.bool b]) (wt := fun _ => 0) (Pd := fun _ => True) Tryz.underlying40 gc4 (by decide) t0 fun n c d p hd => by
    obtain ⟨b, q, _⟩ := openBool Tryz.underlying4 hd
    exact ⟨b, q, Nat.zero_le _, trivial⟩
  obtain ⟨z, q1, _, hw⟩ := openInt Tryz.underlying3 t1
  rw [gc42] at hl
  match cs, hl with
  | [c0, c1], _ =>
    simp at h1 q1
    subst h1 q1
    rw [flat_ones] at h2
    refine ⟨c0, xs, z, rfl, h2, ?_, hw⟩
    simp only [Rows.uptoBulk, Rows.uptoBulkAll]; omega
end
end Go.Proofs.YteejmoldhbfdnaaGreatDoor
