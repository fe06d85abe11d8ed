/- Sorted keys of maps: from the kit's contracts to owned heaps. -/
import Derived.Test.YteejmoldhbfdnaaGreatDoorLays
import Derived.Test.YteejmoldhbfdnaaGreatDoorCore5
import Derived.Test.YteejmoldhbfdnaaGreatDoorBase
import Derived.Maps.OwnSet
import Derived.Sort.KeysCollected
import Derived.Lib.SlKeysI
open Go
namespace Go.W
open Go.RowKit Go.MapKept Go.WideElems Go.Maps Go.WideShapes Go.Proofs
section
variable {P : Program} {k : TypeId} {w : World} {b : Nat} {ob : Obj}
abbrev RN : Value → Option (DataW Unit × List MemPlace) := fun _ => some (.nil, [])
theorem owns_keys {κ : Type} [MKey κ] {kvs : List (κ × Value)} (lit : κ → Lit) (hkey : ∀ x ∈ kvs, keyOf P k (MKey.enc x.1) = some (lit x.1)) (hb : w.heap[b]? = some ob) (hM : MapO kvs ob) (hn : kvs.length ≤ maxLen) :
    ∃ ds : List (Lit × DataW Unit), w.ownsMap P k RN b kvs.length (.map ds) ∧ (ds.map Prod.fst).Perm (kvs.map fun x => lit x.1) := by
  obtain ⟨es, clock, rfl, hes, hst⟩ := hM
  have hlen : es.size = kvs.length := by
    have := congrArg List.length hes
    simpa using this
  have hrd : ∀ x ∈ es.toList, ∃ p ∈ kvs, x.key = MKey.enc p.1 := by
    intro x hx
    have : (x.key, x.val) ∈ kvs.map fun p => (MKey.enc p.1, p.2) := by rw [← hes]; exact List.mem_map.2 ⟨x, hx, rfl⟩
    obtain ⟨p, hp, e⟩ := List.mem_map.1 this
    simp only [Prod.mk.injEq] at e
    exact ⟨p, hp, e.1.symm⟩
  refine ⟨_, ⟨es, clock, hb, ⟨by omega, hst, ?_⟩, by omega, rfl⟩, ?_⟩
  · intro x hx
    obtain ⟨p, hp, e⟩ := hrd x hx
    exact ⟨(lit p.1, .nil), by simp [rd, e, hkey p hp]⟩
  · refine ((sorted_perm _).map _).trans ?_
    have e1 : (es.toList.map (rg P k RN)).map Prod.fst = kvs.map fun x => lit x.1 := by
      rw [List.map_map]
      have h1 : es.toList.map (Prod.fst ∘ rg P k RN) = (es.toList.map fun m => (m.key, m.val)).map fun q => ((keyOf P k q.1).getD (.bool false)) := by
        rw [List.map_map]
        apply List.map_congr_left
        intro x hx
        obtain ⟨p, hp, e⟩ := hrd x hx
        simp [rg, rd, e, hkey p hp]
      rw [h1, hes, List.map_map]
      apply List.map_congr_left
      intro x hx
      simp [hkey x hx]
    rw [e1]
theorem owns_str (hk : P.underlying k = some .string) {kvs : List (Str × Value)} (hb : w.heap[b]? = some ob) (hM : MapO kvs ob) (hn : kvs.length ≤ maxLen) (hl : ∀ x ∈ kvs, x.1.length ≤ maxLen) :
    ∃ D0 : DataW Unit, w.ownsMap P k RN b kvs.length D0 ∧ (strKeys D0).Perm (kvs.map Prod.fst) ∧ Maps.size D0 = kvs.length := by
  obtain ⟨ds, h1, h2⟩ := owns_keys (P := P) (k := k) (fun s : Str => .string s) (fun x hx => by
    have := hl x hx
    show keyOf P k (S x.1) = _
    simp [keyOf, hk, mapKey, size_S, this]) hb hM hn
  refine ⟨_, h1, ?_, ?_⟩
  · have := h2.map strOf
    rw [List.map_map, List.map_map] at this
    exact this
  · have := h2.length_eq
    simpa [Maps.size] using this
theorem owns_int (hk : P.underlying k = some (.int .i64)) {kvs : List (Int × Value)} (hb : w.heap[b]? = some ob) (hM : MapO kvs ob) (hn : kvs.length ≤ maxLen) (hl : ∀ x ∈ kvs, -9223372036854775808 ≤ x.1 ∧ x.1 ≤ 9223372036854775807) :
    ∃ D0 : DataW Unit, w.ownsMap P k RN b kvs.length D0 ∧ (intKeys D0).Perm (kvs.map Prod.fst) ∧ Maps.size D0 = kvs.length := by
  obtain ⟨ds, h1, h2⟩ := owns_keys (P := P) (k := k) (fun s : Int => .int .i64 s) (fun x hx => by
    have := hl x hx
    have hw : (Lit.int .i64 x.1).wf = true := by
      simp only [Lit.wf, IntKind.min, IntKind.max, IntKind.signed, IntKind.bits]
      simp; omega
    show keyOf P k (.int .i64 x.1) = _
    simp [keyOf, hk, mapKey, hw]) hb hM hn
  refine ⟨_, h1, ?_, ?_⟩
  · have := h2.map intOf
    rw [List.map_map, List.map_map] at this
    exact this
  · have := h2.length_eq
    simpa [Maps.size] using this
end
section
variable {P : Program} {e : Ctx} {w : World} {As : List Hp}
theorem row_of_owns {E size n base : Nat} {v : Value} {xs : List Value} {w' : World} (hw : Owns e w As) (h : w'.ownsRow base E size v n xs) (hb : w.heap.size ≤ base) (hB : Below w.heap.size w w') : ∃ A', Row E size v n xs A' ∧ Owns e w' (A' :: As) := by
  obtain ⟨hl, ⟨rfl, rfl⟩ | ⟨g, cap, cur, rfl, hg, hc, h1, h2, h3, h4⟩⟩ := h
  · exact ⟨[], ⟨hl, .inl ⟨rfl, rfl, rfl⟩⟩, (hw.below hB).sub (by simp)⟩
  · refine ⟨[(g, .cells cur E)], ⟨hl, .inr ⟨g, 0, cap, cur, rfl, rfl, h1, h2, by omega, by simpa using h4⟩⟩, hw.ext hB ⟨by simp, ?_⟩ ?_⟩
    · intro b o hm; simp at hm; obtain ⟨rfl, rfl⟩ := hm; exact hc
    · intro b o hm; simp at hm; omega
theorem sort_perm {α : Type} (le : α → α → Bool) (tr : ∀ a b c, le a b = true → le b c = true → le a c = true) (to : ∀ a b, (le a b || le b a) = true) (an : ∀ a b, le a b = true → le b a = true → a = b) {l l' : List α} (h : l.Perm l') : l.mergeSort le = l'.mergeSort le :=
  List.Perm.eq_of_pairwise (le := fun a b => le a b = true) (fun a b _ _ h1 h2 => an a b h1 h2) (List.pairwise_mergeSort tr to l) (List.pairwise_mergeSort tr to l') (((List.mergeSort_perm l le).trans h).trans (List.mergeSort_perm l' le).symm)
theorem sort_str {l l' : List Str} (h : l.Perm l') : l.mergeSort (fun x y => decide (x ≤ y)) = l'.mergeSort (fun x y => decide (x ≤ y)) :=
  sort_perm _ (fun a b c h1 h2 => by simp only [decide_eq_true_eq] at *; exact List.le_trans h1 h2) (fun a b => by simp only [Bool.or_eq_true, decide_eq_true_eq]; exact List.le_total a b) (fun a b h1 h2 => by simp only [decide_eq_true_eq] at *; exact List.le_antisymm h1 h2) h
theorem sort_int {l l' : List Int} (h : l.Perm l') : l.mergeSort (fun x y => decide (x ≤ y)) = l'.mergeSort (fun x y => decide (x ≤ y)) :=
  sort_perm _ (fun a b c h1 h2 => by simp only [decide_eq_true_eq] at *; omega) (fun a b => by simp only [Bool.or_eq_true, decide_eq_true_eq]; omega) (fun a b h1 h2 => by simp only [decide_eq_true_eq] at *; omega) h
theorem ret_str {f : Nat} {args : Array Value} {keys : List Str} {E : Nat} (hw : Owns e w As) (h : Calls P f args w fun en w' => ∃ (v : Value) (ss : List (List UInt8)), en = .returned v ∧ ss.Perm keys ∧ w'.ownsRow w.heap.size E 1 v ss.length ((ss.mergeSort (fun x y => decide (x ≤ y))).map encStr) ∧ (v = .slice none 0 0 ↔ ss = []) ∧ Below w.heap.size w w') :
    Calls P f args w (Ret e fun u Bs => ∃ ns A', Row E 1 u ns.length (ns.map S) A' ∧ ns = keys.mergeSort (fun x y => decide (x ≤ y)) ∧ Bs = A' :: As) := by
  refine Calls.mono h ?_
  rintro en w' ⟨v, ss, rfl, hp, hr, _, hB⟩
  rw [sort_str hp] at hr
  obtain ⟨A', h1, h2⟩ := row_of_owns hw hr (Nat.le_refl _) hB
  have hl : ss.length = (keys.mergeSort (fun x y => decide (x ≤ y))).length := by rw [List.length_mergeSort]; exact hp.length_eq
  rw [hl] at h1
  exact ⟨_, ⟨_, A', h1, rfl, rfl⟩, h2⟩
theorem ret_int {f : Nat} {args : Array Value} {keys : List Int} {E : Nat} (hw : Owns e w As) (h : Calls P f args w fun en w' => ∃ (v : Value) (ss : List Int), en = .returned v ∧ ss.Perm keys ∧ w'.ownsRow w.heap.size E 1 v ss.length ((ss.mergeSort (fun x y => decide (x ≤ y))).map encZ) ∧ (v = .slice none 0 0 ↔ ss = []) ∧ Below w.heap.size w w') :
    Calls P f args w (Ret e fun u Bs => ∃ ns A', Row E 1 u ns.length (ns.map fun i => .int .i64 i) A' ∧ ns = keys.mergeSort (fun x y => decide (x ≤ y)) ∧ Bs = A' :: As) := by
  refine Calls.mono h ?_
  rintro en w' ⟨v, ss, rfl, hp, hr, _, hB⟩
  rw [sort_int hp] at hr
  obtain ⟨A', h1, h2⟩ := row_of_owns hw hr (Nat.le_refl _) hB
  have hl : ss.length = (keys.mergeSort (fun x y => decide (x ≤ y))).length := by rw [List.length_mergeSort]; exact hp.length_eq
  rw [hl] at h1
  exact ⟨_, ⟨_, A', h1, rfl, rfl⟩, h2⟩
end
end Go.W
