/- Arguments opened as lists of the models. -/
import Derived.Test.YteejmoldhbfdnaaGreatDoorOpen
import Derived.Test.YteejmoldhbfdnaaGreatDoorBulk
import Derived.Test.YteejmoldhbfdnaaGreatDoorCatL
import Derived.Deep.Strs
namespace Go.Proofs.YteejmoldhbfdnaaGreatDoor
open Go.ChangeShapes Go.WideShapes Go.RowKit Go.Deep Go.W CatL
theorem lists_of {H : Type} {α : Type} {cells : α → List Value} {wt : α → Nat} {Pd : α → Prop} {R : List Value → DataW H → Prop} (hel : ∀ c d, R c d → ∃ a, c = cells a ∧ wt a ≤ 64 * Rows.uptoBulk d ∧ Pd a) :
    ∀ {css : List (List Value)} {ds : List (DataW H)}, ds.length = css.length → (∀ (i : Nat) (c : List Value) (d : DataW H), css[i]? = some c → ds[i]? = some d → R c d) →
      ∃ xs : List α, css = xs.map cells ∧ (xs.map wt).sum ≤ 64 * Rows.uptoBulkAll ds ∧ (∀ a ∈ xs, Pd a)
  | [], [], _, _ => ⟨[], rfl, by simp, by simp⟩
  | c :: css, [], h, _ => by simp at h
  | [], d :: ds, h, _ => by simp at h
  | c :: css, d :: ds, h, hr => by
    obtain ⟨xs, h1, h2, h3⟩ := lists_of hel (css := css) (ds := ds) (by simpa using h) (fun i c' d' hc hd => hr (i + 1) c' d' (by simpa using hc) (by simpa using hd))
    obtain ⟨a, g1, g2, g3⟩ := hel c d (hr 0 c d rfl rfl)
    refine ⟨a :: xs, by rw [List.map_cons, ← g1, ← h1], ?_, ?_⟩
    · simp only [List.map_cons, List.sum_cons, Rows.uptoBulkAll]; omega
    · intro b hb
      rcases List.mem_cons.1 hb with rfl | hb
      · exact g3
      · exact h3 b hb
theorem flat_ones {α : Type} (f : α → Value) (l : List α) : (l.map fun b => [f b]).flatten = l.map f := by
  induction l with
  | nil => rfl
  | cons x xs ih => simp only [List.map_cons, List.flatten_cons, ih]; rfl
section
variable {H : Type} {enc : TypeId × Value → H} {W : World} {base : Nat} {held : Bool}
/-- A slice of elements that are read one by one. -/
theorem openList {α : Type} {cells : α → List Value} {wt : α → Nat} {Pd : α → Prop} {t e k fuel : Nat} {cs : List Value} {x : DataW H × List MemPlace} (ht : Tryz.prog.underlying t = some (.slice e)) (hc : Tryz.prog.cellsOf e = k) (hk : 0 < k)
    (h : DataW.trod enc Tryz.prog W base (fun _ => true) held fuel t cs = some x) (hel : ∀ (n : Nat) c d p, DataW.trod enc Tryz.prog W base (fun _ => true) held n e c = some (d, p) → ∃ a, c = cells a ∧ wt a ≤ 64 * Rows.uptoBulk d ∧ Pd a) :
    ∃ (v : Value) (xs : List α), cs = [v] ∧ Sl (baseOf W) k v xs.length (xs.map cells).flatten ∧ (xs.map wt).sum ≤ 64 * Rows.uptoBulk x.1 ∧ xs.length ≤ Rows.uptoBulk x.1 ∧ ∀ a ∈ xs, Pd a := by
  obtain ⟨v, css, ds, n, rfl, hs, _, hlen, hx, hr⟩ := openSl ht hc hk h
  obtain ⟨xs, rfl, h2, h3⟩ := lists_of (R := fun c d => ∃ p, DataW.trod enc Tryz.prog W base (fun _ => true) held n e c = some (d, p)) (fun c d ⟨p, q⟩ => hel n c d p q) hlen hr
  rw [List.length_map] at hs hlen
  have hb : Rows.uptoBulkAll ds ≤ Rows.uptoBulk x.1 := by
    rcases hx with ⟨_, rfl⟩ | ⟨rest, hx⟩
    · simp [Rows.uptoBulkAll]
    · rw [hx]; simp only [Rows.uptoBulk]; omega
  have hl := bulk_len ds
  exact ⟨v, xs, rfl, hs, by omega, by omega, h3⟩
theorem gc51 : Tryz.prog.cellsOf 51 = 3 := by kernel_rfl
theorem gc9 : Tryz.prog.cellsOf 9 = 1 := by kernel_rfl
theorem gc4 : Tryz.prog.cellsOf 4 = 1 := by kernel_rfl
theorem gc3 : Tryz.prog.cellsOf 3 = 1 := by kernel_rfl
theorem gc40 : Tryz.prog.cellsOf 40 = 1 := by kernel_rfl
theorem gc42 : Tryz.prog.cellsOf 42 = 2 := by kernel_rfl
theorem openChs {fuel : Nat} {cs : List Value} {x : DataW H × List MemPlace} (h : DataW.trod enc Tryz.prog W base (fun _ => true) held fuel 39 cs = some x) :
    ∃ (v : Value) (xs : List Ch), cs = [v] ∧ Sl (baseOf W) 3 v xs.length (chs xs) ∧ (xs.map chW).sum ≤ 64 * Rows.uptoBulk x.1 := by
  obtain ⟨v, xs, h1, h2, h3, _, _⟩ := openList (cells := chV) (wt := chW) (Pd := fun _ => True) Tryz.underlying39 gc51 (by decide) h fun n c d p hd => by
    obtain ⟨y0, y1, y2, m, hx, hl, t0, t1, t2⟩ := trod_struct3 Tryz.underlying51 hd
    dsimp only at t0 t1 t2
    rw [gc9] at t0 t1
    rw [gc4] at t2
    obtain ⟨s0, q0, z0⟩ := openStr Tryz.underlying9 t0
    obtain ⟨s1, q1, z1⟩ := openStr Tryz.underlying9 t1
    obtain ⟨b, q2, z2⟩ := openBool Tryz.underlying4 t2
    rw [gc51] at hl
    match c, hl with
    | [c0, c1, c2], _ =>
      simp at q0 q1 q2
      subst q0 q1 q2
      refine ⟨⟨s0, s1, b⟩, rfl, ?_, trivial⟩
      simp only [Prod.mk.injEq] at hx
      rw [hx.1, z0, z1, z2]
      simp only [Rows.uptoBulk, Rows.uptoBulkAll, chW]
      omega
  exact ⟨v, xs, h1, h2, h3⟩
theorem openFate {fuel : Nat} {cs : List Value} {x : DataW H × List MemPlace} (h : DataW.trod enc Tryz.prog W base (fun _ => true) held fuel 42 cs = some x) :
    ∃ (kv : Value) (keep : List Bool) (tear : Int), cs = [kv, .int .i64 tear] ∧ Sl (baseOf W) 1 kv keep.length (keep.map Value.bool) ∧ keep.length ≤ Rows.uptoBulk x.1 ∧ (Lit.int .i64 tear).wf = true := by
  obtain ⟨y0, y1, m, rfl, hl, t0, t1⟩ := trod_struct2 Tryz.underlying42 h
  dsimp only at t0 t1
  rw [gc40] at t0
  rw [gc3] at t1
  obtain ⟨v, xs, h1, h2, _, h4, _⟩ := openList (cells := fun b => [Value.bool b]) (wt := fun _ => 0) (Pd := fun _ => True) Tryz.underlying40 gc4 (by decide) t0 fun n c d p hd => by
    obtain ⟨b, q, _⟩ := openBool Tryz.underlying4 hd
    exact ⟨b, q, Nat.zero_le _, trivial⟩
  obtain ⟨z, q1, _, hw⟩ := openInt Tryz.underlying3 t1
  rw [gc42] at hl
  match cs, hl with
  | [c0, c1], _ =>
    simp at h1 q1
    subst h1 q1
    rw [flat_ones] at h2
    refine ⟨c0, xs, z, rfl, h2, ?_, hw⟩
    simp only [Rows.uptoBulk, Rows.uptoBulkAll]; omega
end
end Go.Proofs.YteejmoldhbfdnaaGreatDoor
