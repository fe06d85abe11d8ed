/- What a crash leaves: plain definitions and laws. -/
import Derived.Test.YteejmoldhbfdnaaGreatDoorCatL
import Derived.Test.YteejmoldhbfdnaaGreatDoorCore6
namespace Go.W
section
variable {κ : Type} [MKey κ]
open MKey
theorem nodup_of_map {α β : Type} (f : α → β) : ∀ {l : List α}, (l.map f).Nodup → l.Nodup
  | [], _ => .nil
  | a :: l, h => by
    simp only [List.map_cons, List.nodup_cons] at h ⊢
    exact ⟨fun q => h.1 (List.mem_map.2 ⟨a, q, rfl⟩), nodup_of_map f h.2⟩
theorem MapO.nodup {kvs : List (κ × Value)} {ob : Obj} (h : MapO kvs ob) : (kvs.map Prod.fst).Nodup := by
  obtain ⟨es, clock, rfl, hes, hst⟩ := h
  have h1 : (es.toList.map (·.key)) = (kvs.map Prod.fst).map enc := by
    have := congrArg (List.map Prod.fst) hes
    rw [List.map_map, List.map_map] at this
    rw [List.map_map]
    exact this
  have h2 := hst.2.2
  rw [h1] at h2
  exact nodup_of_map _ h2
theorem encs_inj : ∀ {a b : List (κ × Value)}, encs a = encs b → a = b
  | [], [], _ => rfl
  | [], _ :: _, h => by simp at h
  | _ :: _, [], h => by simp at h
  | (k, v) :: a, (k', v') :: b, h => by
    simp only [List.map_cons, List.cons.injEq, Prod.mk.injEq] at h
    rw [inj _ _ h.1.1, h.1.2, encs_inj h.2]
theorem encs_sub {a b : List (κ × Value)} (h : (encs a).Sublist (encs b)) : a.Sublist b := by
  obtain ⟨l, h1, h2⟩ := List.sublist_map_iff.1 h
  rw [encs_inj h2]; exact h1
theorem IterO.sub {mb : Nat} {kvs left : List (κ × Value)} {cur : Option (κ × Value)} {ob io : Obj} (h : IterO mb kvs left cur ob io) : left.Sublist kvs := by
  obtain ⟨es, clock, since, seen, c, _, hes, _, _, _, _, hl, _⟩ := h
  refine encs_sub ?_
  rw [← hl, ← hes]
  exact List.filter_sublist.map _
theorem lkp_of_mem {V : Type} {k : κ} {v : V} : ∀ {m : List (κ × V)}, (m.map Prod.fst).Nodup → (k, v) ∈ m → lkp k m = some v
  | [], _, h => by cases h
  | (k1, v1) :: m, hn, h => by
    simp only [List.map_cons, List.nodup_cons] at hn
    rcases List.mem_cons.1 h with h | h
    · cases h; simp [lkp]
    · have : k1 ≠ k := fun q => hn.1 (q ▸ List.mem_map.2 ⟨(k, v), h, rfl⟩)
      simp [lkp, this, lkp_of_mem hn.2 h]
theorem del_len {V : Type} {k : κ} : ∀ {m : List (κ × V)}, (lkp k m).isSome = true → (del k m).length + 1 = m.length
  | [], h => by simp [lkp] at h
  | (k1, v1) :: m, h => by
    by_cases h1 : k1 = k
    · simp [del, h1]
    · simp [lkp, h1] at h
      have := del_len h
      simp [del, h1]; omega
end
end Go.W
namespace Go.Proofs.YteejmoldhbfdnaaGreatDoor.Disk
open Go.W Go.RowKit
def wr (b : Str) (at_ : Nat) (d : Str) : Str :=
  (b ++ List.replicate (at_ + d.length - b.length) 0).take at_ ++ d ++ (b ++ List.replicate (at_ + d.length - b.length) 0).drop (at_ + d.length)
theorem wr_len (b : Str) (at_ : Nat) (d : Str) : (wr b at_ d).length = max b.length (at_ + d.length) := by
  unfold wr; simp; omega
def torn (d : Str) (tear : Int) (last : Bool) : Str := if last = true ∧ 0 ≤ tear then d.take tear.toNat else d
theorem torn_len (d : Str) (tear : Int) (last : Bool) : (torn d tear last).length ≤ d.length := by
  unfold torn; split
  · rw [List.length_take]; omega
  · exact Nat.le_refl _
def crash1 (keep : List Bool) (tear : Int) (n k : Nat) (w : Str × Nat × Str) (f : Str → Str) : Str → Str :=
  if keep[k]? = some true then fun x => if x = w.1 then wr (f w.1) w.2.1 (torn w.2.2 tear (decide (k + 1 = n))) else f x else f
def crashN (keep : List Bool) (tear : Int) (n : Nat) : List (Str × Nat × Str) → Nat → (Str → Str) → (Str → Str)
  | [], _, f => f
  | w :: ws, k, f => crashN keep tear n ws (k + 1) (crash1 keep tear n k w f)
def DK.safeF (D : DK) (nm : Str) : Str := match lkp nm D.files with | some (_, s) => s | none => []
def DK.crash (D : DK) (keep : List Bool) (tear : Int) : Str → Str := crashN keep tear D.pend.length D.pend 0 D.safeF
def DK.names (D : DK) : List Str := (D.files.map Prod.fst).mergeSort (fun x y => decide (x ≤ y))
def DK.left (D : DK) (keep : List Bool) (tear : Int) : List (Str × Str) := D.names.map fun nm => (nm, D.crash keep tear nm)
/-- Writes lie within their files. -/
structure Fits (D : DK) : Prop where
  safe : ∀ nm d s, lkp nm D.files = some (d, s) → s.length ≤ d.length
  pend : ∀ x ∈ D.pend, ∃ d s, lkp x.1 D.files = some (d, s) ∧ x.2.1 + x.2.2.length ≤ d.length
theorem crash1_len {D : DK} {keep : List Bool} {tear : Int} {n k : Nat} {w : Str × Nat × Str} {f : Str → Str} (hw : ∃ d s, lkp w.1 D.files = some (d, s) ∧ w.2.1 + w.2.2.length ≤ d.length)
    (hf : ∀ nm d s, lkp nm D.files = some (d, s) → (f nm).length ≤ d.length) : ∀ nm d s, lkp nm D.files = some (d, s) → (crash1 keep tear n k w f nm).length ≤ d.length := by
  intro nm d s h
  unfold crash1
  split
  · dsimp only
    split
    · rename_i hq
      subst hq
      obtain ⟨d', s', h1, h2⟩ := hw
      rw [h] at h1; cases h1
      rw [wr_len]
      have := hf _ _ _ h
      have := torn_len w.2.2 tear (decide (k + 1 = n))
      omega
    · exact hf _ _ _ h
  · exact hf _ _ _ h
/-- Files as octets: names and slices. -/
inductive FL (A : Hp) : List Value → List (Str × Str) → Prop
  | nil : FL A [] []
  | cons {nm d : Str} {dv : Value} {vs : List Value} {fs : List (Str × Str)} (h : Sl A 1 dv d.length (bcells d)) (t : FL A vs fs) : FL A (S nm :: dv :: vs) ((nm, d) :: fs)
theorem FL.mono {A B : Hp} {vs : List Value} {fs : List (Str × Str)} (h : FL A vs fs) (hs : A ⊆ B) : FL B vs fs := by
  induction h with
  | nil => exact .nil
  | cons h _ ih => exact .cons (h.mono hs) ih
theorem FL.snoc {A : Hp} {vs : List Value} {fs : List (Str × Str)} {nm d : Str} {dv : Value} (h : FL A vs fs) (hv : Sl A 1 dv d.length (bcells d)) : FL A (vs ++ [S nm, dv]) (fs ++ [(nm, d)]) := by
  induction h with
  | nil => exact .cons hv .nil
  | cons h _ ih => exact .cons h ih
theorem FL.get {A : Hp} {vs : List Value} {fs : List (Str × Str)} (h : FL A vs fs) {i : Nat} {nm d : Str} (hd : fs[i]? = some (nm, d)) : ∃ dv, (vs.drop (i * 2)).take 2 = [S nm, dv] ∧ Sl A 1 dv d.length (bcells d) := by
  induction h generalizing i with
  | nil => cases hd
  | cons h _ ih =>
    cases i with
    | zero => cases hd; exact ⟨_, rfl, h⟩
    | succ i =>
      obtain ⟨dv, h1, h2⟩ := ih hd
      exact ⟨dv, by rw [← h1, show (i + 1) * 2 = i * 2 + 2 by omega]; rfl, h2⟩
def dd (x : Str × Str) : Str × (Str × Str) := (x.1, (x.2, x.2))
/-- The disk that is opened with files. -/
def openD (fs : List (Str × Str)) (r : Int) : DK := ⟨fs.map dd, [], r⟩
end Go.Proofs.YteejmoldhbfdnaaGreatDoor.Disk
