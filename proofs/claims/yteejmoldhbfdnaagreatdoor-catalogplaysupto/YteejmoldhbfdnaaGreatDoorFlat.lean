/- Elements of several cells, one behind the other. -/
import Derived.Test.YteejmoldhbfdnaaGreatDoorCore5
namespace Go.W
/-- Cells of elements, one behind the other. -/
theorem flatten_get {css : List (List Value)} {k : Nat} (h : ∀ c ∈ css, c.length = k) {i j : Nat} {c : List Value} (hi : css[i]? = some c) (hj : j < k) : css.flatten[i * k + j]? = c[j]? := by
  induction css generalizing i with
  | nil => cases hi
  | cons d ds ih =>
    cases i with
    | zero =>
      simp at hi; subst hi
      have := h d (.head _)
      rw [List.flatten_cons, Nat.zero_mul, Nat.zero_add, List.getElem?_append_left (by omega)]
    | succ i =>
      have hd := h d (.head _)
      have e1 : (i + 1) * k + j = k + (i * k + j) := by rw [Nat.add_mul]; omega
      rw [List.flatten_cons, e1, List.getElem?_append_right (by omega), hd, Nat.add_sub_cancel_left]
      exact ih (fun c hc => h c (.tail _ hc)) (by simpa using hi)
theorem flatten_len {css : List (List Value)} {k : Nat} (h : ∀ c ∈ css, c.length = k) : css.flatten.length = css.length * k := by
  induction css with
  | nil => simp
  | cons d ds ih =>
    rw [List.flatten_cons, List.length_append, ih (fun c hc => h c (.tail _ hc)), h d (.head _), List.length_cons, Nat.add_mul]
    omega
theorem flatten_drop {css : List (List Value)} {k : Nat} (h : ∀ c ∈ css, c.length = k) (i : Nat) : css.flatten.drop (i * k) = (css.drop i).flatten := by
  induction css generalizing i with
  | nil => simp
  | cons d ds ih =>
    cases i with
    | zero => simp
    | succ i =>
      have hd := h d (.head _)
      have e1 : (i + 1) * k = d.length + i * k := by rw [Nat.add_mul, hd]; omega
      rw [List.flatten_cons, e1, List.drop_append, List.drop_eq_nil_of_le (by omega), List.nil_append, Nat.add_sub_cancel_left, List.drop_succ_cons]
      exact ih (fun c hc => h c (.tail _ hc)) i
theorem flatten_elem {css : List (List Value)} {k : Nat} (h : ∀ c ∈ css, c.length = k) {i : Nat} {c : List Value} (hi : css[i]? = some c) : (css.flatten.drop (i * k)).take k = c := by
  obtain ⟨h1, h2⟩ := List.getElem?_eq_some_iff.1 hi
  rw [flatten_drop h, List.drop_eq_getElem_cons h1, h2, List.flatten_cons, ← h c (List.mem_of_getElem? hi), List.take_left']
  rfl
theorem flatten_snoc (css : List (List Value)) (c : List Value) : (css ++ [c]).flatten = css.flatten ++ c := by simp
theorem flatten_set {css : List (List Value)} {k : Nat} (h : ∀ c ∈ css, c.length = k) {i j : Nat} {c : List Value} (hi : css[i]? = some c) (hj : j < k) (u : Value) : css.flatten.set (i * k + j) u = (css.set i (c.set j u)).flatten := by
  induction css generalizing i with
  | nil => cases hi
  | cons d ds ih =>
    have hd := h d (.head _)
    cases i with
    | zero =>
      simp at hi; subst hi
      rw [List.set_cons_zero, List.flatten_cons, List.flatten_cons, Nat.zero_mul, Nat.zero_add, List.set_append_left _ _ (by omega)]
    | succ i =>
      have e1 : (i + 1) * k + j = d.length + (i * k + j) := by rw [Nat.add_mul, hd]; omega
      rw [List.set_cons_succ, List.flatten_cons, List.flatten_cons, e1, List.set_append_right _ _ (by omega), Nat.add_sub_cancel_left, ih (fun c hc => h c (.tail _ hc)) (by simpa using hi)]
theorem flatten_put {css : List (List Value)} {k : Nat} (h : ∀ c ∈ css, c.length = k) {i : Nat} (hi : i < css.length) {c : List Value} (hc : c.length = k) : putAt css.flatten (i * k) c = (css.set i c).flatten := by
  have hl := flatten_len h
  have hle : i * k + k ≤ css.length * k := by
    have := Nat.mul_le_mul_right k (show i + 1 ≤ css.length by omega)
    rw [Nat.add_mul] at this; omega
  rw [putAt_set _ _ _ (by rw [hl, hc]; exact hle), hc]
  have e1 : css.set i c = css.take i ++ [c] ++ css.drop (i + 1) := by
    rw [List.set_eq_take_append_cons_drop, if_pos hi]; simp
  have e2 : css.flatten.take (i * k) = (css.take i).flatten := by
    have h2 : ∀ c ∈ css.take i, c.length = k := fun c hc => h c (List.mem_of_mem_take hc)
    have : css.flatten = (css.take i).flatten ++ (css.drop i).flatten := by rw [← List.flatten_append, List.take_append_drop]
    rw [this, List.take_left']
    rw [flatten_len h2, List.length_take, Nat.min_eq_left (by omega)]
  have e3 : css.flatten.drop (i * k + k) = (css.drop (i + 1)).flatten := by
    have := flatten_drop h (i + 1)
    rw [Nat.add_mul, Nat.one_mul] at this; exact this
  rw [e1, e2, e3]
  simp
end Go.W
