/- The reference's sorted list of pairs: plain laws. -/
import Derived.Test.YteejmoldhbfdnaaGreatDoorCInv
import Derived.Test.YteejmoldhbfdnaaGreatDoorCore6
import Derived.Sort.Walk0
namespace Go.W
open Go.RowKit
section
variable {P : Program} {e : Ctx} {n : Nat} {l : List (Nat × Value)} {As : List Hp} {dst : Option Tmp} {ty : TypeId} {pos : String} {after : Array Edge} {g : Option (Nat × Bool)} {x y : Operand} {t t' : TypeId}
theorem opV_bneql {a b r : Bool} (ht : P.underlying t = some .bool) (hx : ev l x = some (.bool a)) (hy : ev l y = some (.bool b)) (hr : (!(a == b)) = r) :
    OpV P e n ⟨dst, .binOp .neq t x y t', ty, pos, after, g⟩ l As (.bool r) := fun ac w h => by
  subst hr
  have e1 := run_neq_bool (P := P) w t a b ht
  simp [execOp, h.eval hx, h.eval hy, eqGuard, e1]
end
theorem putAt_rest {cs vs : List Value} {k : Nat} (h : k + vs.length ≤ cs.length) : (putAt cs k vs).drop (k + vs.length) = cs.drop (k + vs.length) := by
  rw [putAt_set _ _ _ h]
  have hl : (cs.take k ++ vs).length = k + vs.length := by rw [List.length_append, List.length_take, Nat.min_eq_left (by omega)]
  rw [← hl, List.drop_left]
theorem putAt_len {cs vs : List Value} {k : Nat} (h : k + vs.length ≤ cs.length) : (putAt cs k vs).length = cs.length := by
  rw [putAt_set _ _ _ h]
  simp only [List.length_append, List.length_take, List.length_drop]
  omega
theorem eqv_chV (a b : Str) (c : Bool) : eqvL [S a, S b, .bool c] [S a, S b, .bool c] = true := by simp [eqvL, eqv_S, eqv_bool]
end Go.W
namespace Go.Proofs.YteejmoldhbfdnaaGreatDoor.RefL
open Go.W Go.RowKit Seal CatL Cat2 Cat3 Cat4 CInv
def Srt (l : List Pr) : Prop := l.Pairwise fun a b => a.1 < b.1
def delL (k : Str) (l : List Pr) : List Pr := l.filter fun p => decide (p.1 ≠ k)
def putL (k v : Str) (l : List Pr) : List Pr := l.filter (fun p => decide (p.1 < k)) ++ (k, v) :: l.filter fun p => decide (k < p.1)
def apL (l : List Pr) (c : Ch) : List Pr := if c.del then delL c.key l else putL c.key c.val l
theorem Srt.keys {l : List Pr} (h : Srt l) : (l.map Prod.fst).Pairwise (· < ·) := by rw [List.pairwise_map]; exact h
theorem Srt.nodup {l : List Pr} (h : Srt l) : (l.map Prod.fst).Nodup := h.keys.imp fun q e => by subst e; exact List.lt_irrefl _ q
theorem nodup_srt {l : List Str} (h : l.Nodup) (hs : l.Pairwise fun a b => decide (a ≤ b) = true) : l.Pairwise (· < ·) := by
  have := h.and hs
  refine this.imp ?_
  rintro a b ⟨h1, h2⟩
  rcases Decidable.em (a < b) with q | q
  · exact q
  · exact absurd (List.le_antisymm (of_decide_eq_true h2) (List.not_lt.1 q)) h1
theorem sk_srt {es : List Pr} (h : (es.map Prod.fst).Nodup) : (sk es).Pairwise (· < ·) := by
  refine nodup_srt ((List.mergeSort_perm (es.map Prod.fst) _).nodup_iff.2 h) ?_
  exact List.pairwise_mergeSort (fun a b c h1 h2 => by simp only [decide_eq_true_eq] at *; exact List.le_trans h1 h2) (fun a b => by simp only [Bool.or_eq_true, decide_eq_true_eq]; exact List.le_total a b) _
theorem pairs_keys (es : List Pr) : (pairsOf es).map Prod.fst = sk es := by unfold pairsOf; rw [List.map_map]; exact List.map_id _
theorem pairs_srt {es : List Pr} (h : (es.map Prod.fst).Nodup) : Srt (pairsOf es) := by
  have := sk_srt h
  rw [← pairs_keys, List.pairwise_map] at this
  exact this
theorem pairs_lkp {es : List Pr} (h : (es.map Prod.fst).Nodup) (k : Str) : lkp k (pairsOf es) = lkp k es := (lkp_perm h (pairsOf_perm h).symm k).symm
theorem map_self {es l : List Pr} (h : ∀ x ∈ l, lkp x.1 es = some x.2) : (l.map Prod.fst).map (fun k => (k, (lkp k es).getD [])) = l := by
  induction l with
  | nil => rfl
  | cons x xs ih =>
    rw [List.map_cons, List.map_cons, ih (fun y hy => h y (.tail _ hy)), h x (.head _)]
    rfl
theorem pairs_id {l : List Pr} (h : Srt l) : pairsOf l = l := by
  have h1 : sk l = l.map Prod.fst := by
    unfold sk
    exact List.mergeSort_of_pairwise (h.keys.imp fun q => decide_eq_true (List.le_of_lt q))
  unfold pairsOf
  rw [h1]
  exact map_self fun x hx => lkp_of_mem h.nodup hx
/-- A sorted list is the pairs of any entries that answer as it does. -/
theorem srt_pairs {l es : List Pr} (h : Srt l) (hn : (es.map Prod.fst).Nodup) (hk : ∀ k, lkp k l = lkp k es) : l = pairsOf es := by
  rw [← pairs_id h]
  exact pairsOf_congr h.nodup (perm_of_lkp h.nodup hn hk)
theorem lkp_filter {q : Str → Bool} (k : Str) : ∀ l : List Pr, lkp k (l.filter fun p => q p.1) = if q k then lkp k l else none
  | [] => by simp [lkp]
  | (k', v) :: r => by
    by_cases hq : q k' = true
    · rw [List.filter_cons_of_pos (p := fun p : Pr => q p.1) hq]
      by_cases hk : k' = k
      · subst hk; simp [lkp, hq]
      · simp only [lkp, if_neg hk]; exact lkp_filter k r
    · rw [List.filter_cons_of_neg (p := fun p : Pr => q p.1) hq]
      rw [lkp_filter k r]
      by_cases hk : k' = k
      · subst hk; simp [hq]
      · simp only [lkp, if_neg hk]
theorem lkp_app (k : Str) : ∀ a b : List Pr, lkp k (a ++ b) = (lkp k a).or (lkp k b)
  | [], b => by simp [lkp]
  | (k', v) :: r, b => by
    by_cases hk : k' = k
    · simp [lkp, hk]
    · simp only [List.cons_append, lkp, if_neg hk]; exact lkp_app k r b
theorem delL_srt {l : List Pr} (h : Srt l) (k : Str) : Srt (delL k l) := h.filter _
theorem delL_lkp (k k' : Str) (l : List Pr) : lkp k' (delL k l) = if k = k' then none else lkp k' l := by
  unfold delL
  rw [lkp_filter (q := fun s => decide (s ≠ k)) k' l]
  by_cases h : k = k'
  · subst h; simp
  · rw [if_neg h, if_pos (by simpa using fun q => h q.symm)]
theorem putL_srt {l : List Pr} (h : Srt l) (k v : Str) : Srt (putL k v l) := by
  unfold Srt putL
  rw [List.pairwise_append, List.pairwise_cons]
  refine ⟨h.filter _, ⟨fun x hx => ?_, h.filter _⟩, fun x hx y hy => ?_⟩
  · have := (List.mem_filter.1 hx).2; simpa using this
  · have h1 : x.1 < k := by have := (List.mem_filter.1 hx).2; simpa using this
    rcases List.mem_cons.1 hy with rfl | hy
    · exact h1
    · have h2 : k < y.1 := by have := (List.mem_filter.1 hy).2; simpa using this
      exact List.lt_trans h1 h2
theorem putL_lkp (k v k' : Str) (l : List Pr) : lkp k' (putL k v l) = if k = k' then some v else lkp k' l := by
  unfold putL
  rw [lkp_app, lkp_filter (q := fun s => decide (s < k)) k' l]
  simp only [lkp]
  rw [lkp_filter (q := fun s => decide (k < s)) k' l]
  by_cases h : k = k'
  · subst h
    simp [List.lt_irrefl]
  · rw [if_neg h, if_neg h]
    rcases Decidable.em (k' < k) with h1 | h1
    · rw [if_pos (decide_eq_true h1), if_neg (by simpa using List.le_of_lt h1)]; simp
    · rw [if_neg (by simpa using h1)]
      have h2 : k < k' := by
        rcases Decidable.em (k < k') with q | q
        · exact q
        · exact absurd (List.le_antisymm (List.not_lt.1 h1) (List.not_lt.1 q)) h
      rw [if_pos (decide_eq_true h2)]; simp
theorem apL_srt {l : List Pr} (h : Srt l) (c : Ch) : Srt (apL l c) := by unfold apL; split; exact delL_srt h _; exact putL_srt h _ _
theorem apL_pairs {es : List Pr} (h : (es.map Prod.fst).Nodup) (c : Ch) : apL (pairsOf es) c = pairsOf (apE es c) := by
  refine srt_pairs (apL_srt (pairs_srt h) c) (apE_nodup h) fun k => ?_
  rw [apE_lkp h]
  unfold apL
  cases hd : c.del with
  | true => simp only [if_true]; rw [delL_lkp, pairs_lkp h]
  | false => simp only [Bool.false_eq_true, if_false]; rw [putL_lkp, pairs_lkp h]
theorem after_pairs {cs : List Ch} : ∀ {es : List Pr}, (es.map Prod.fst).Nodup → cs.foldl apL (pairsOf es) = pairsOf (afterE es cs) := by
  induction cs with
  | nil => intro es _; rfl
  | cons c cs ih => intro es h; rw [List.foldl_cons, apL_pairs h, ih (apE_nodup h)]; rfl
/-- What Put has made of the first of the list. -/
structure PutI (k v : Str) (t out : List Pr) (done : Bool) : Prop where
  out : out = t.filter (fun p => decide (p.1 < k)) ++ (if done then (k, v) :: t.filter (fun p => decide (k < p.1)) else [])
  no : done = false → ∀ p ∈ t, p.1 < k
  yes : done = true → ∃ p ∈ t, k ≤ p.1
theorem PutI.start (k v : Str) : PutI k v [] [] false := ⟨rfl, fun _ => by simp, fun h => by cases h⟩
section
variable {k v : Str} {t out : List Pr} {x : Pr}
theorem PutI.low (h : PutI k v t out false) (hx : x.1 < k) : PutI k v (t ++ [x]) (out ++ [x]) false := by
  refine ⟨?_, fun _ p hp => ?_, fun q => by cases q⟩
  · rw [h.out, List.filter_append]; simp [hx]
  · rcases List.mem_append.1 hp with hp | hp
    · exact h.no rfl p hp
    · simp at hp; subst hp; exact hx
theorem no_high (h : ∀ p ∈ t, p.1 < k) : t.filter (fun p => decide (k < p.1)) = [] := List.filter_eq_nil_iff.2 fun p hp => by simpa using List.le_of_lt (h p hp)
theorem PutI.at_ (h : PutI k v t out false) (hx : x.1 = k) : PutI k v (t ++ [x]) (out ++ [(k, v)]) true := by
  refine ⟨?_, (fun q => by cases q), fun _ => ⟨x, by simp, by rw [hx]; exact List.le_refl _⟩⟩
  rw [h.out, List.filter_append, List.filter_append, no_high (h.no rfl)]
  simp [hx, List.lt_irrefl]
theorem PutI.over (h : PutI k v t out false) (hx : k < x.1) : PutI k v (t ++ [x]) (out ++ [(k, v)] ++ [x]) true := by
  refine ⟨?_, (fun q => by cases q), fun _ => ⟨x, by simp, List.le_of_lt hx⟩⟩
  have h1 : ¬ x.1 < k := fun q => List.lt_irrefl _ (List.lt_trans hx q)
  rw [h.out, List.filter_append, List.filter_append, no_high (h.no rfl)]
  simp [hx, List.le_of_lt hx]
theorem PutI.high (h : PutI k v t out true) (hx : k < x.1) : PutI k v (t ++ [x]) (out ++ [x]) true := by
  refine ⟨?_, (fun q => by cases q), fun _ => ⟨x, by simp, List.le_of_lt hx⟩⟩
  rw [h.out, List.filter_append, List.filter_append]
  simp [hx, List.le_of_lt hx]
theorem PutI.lt {l : List Pr} {i : Nat} (hs : Srt l) (hx : l[i]? = some x) (h : PutI k v (l.take i) out true) : k < x.1 := by
  obtain ⟨p, hp, hk⟩ := h.yes rfl
  obtain ⟨j, hj⟩ := List.mem_iff_getElem?.1 hp
  rw [List.getElem?_take] at hj
  split at hj
  · rename_i hji
    obtain ⟨h1, e1⟩ := List.getElem?_eq_some_iff.1 hj
    obtain ⟨h2, e2⟩ := List.getElem?_eq_some_iff.1 hx
    have := List.pairwise_iff_getElem.1 hs j i h1 h2 hji
    rw [e1, e2] at this
    exact List.lt_of_le_of_lt hk this
  · cases hj
theorem PutI.endT (h : PutI k v t out true) : out = putL k v t := by rw [h.out]; simp [putL]
theorem PutI.endF (h : PutI k v t out false) : out ++ [(k, v)] = putL k v t := by
  rw [h.out]; unfold putL; rw [no_high (h.no rfl)]; simp
end
end Go.Proofs.YteejmoldhbfdnaaGreatDoor.RefL
