/- Changes, pairs: what they are in cells; the catalog's entries. Plain definitions and laws. -/
import Derived.Test.YteejmoldhbfdnaaGreatDoorFlat
import Derived.Test.YteejmoldhbfdnaaGreatDoorWal3
namespace Go.Proofs.YteejmoldhbfdnaaGreatDoor.CatL
open Go.W Go.RowKit Oct
structure Ch where
  key : Str
  val : Str
  del : Bool
abbrev Pr := Str × Str
def chV (c : Ch) : List Value := [S c.key, S c.val, .bool c.del]
def prV (p : Pr) : List Value := [S p.1, S p.2]
abbrev chs (cs : List Ch) : List Value := (cs.map chV).flatten
abbrev prs (ps : List Pr) : List Value := (ps.map prV).flatten
theorem chV_len {cs : List Ch} : ∀ c ∈ List.map chV cs, c.length = 3 := by
  intro c hc; obtain ⟨x, _, rfl⟩ := List.mem_map.1 hc; rfl
theorem prV_len {ps : List Pr} : ∀ c ∈ List.map prV ps, c.length = 2 := by
  intro c hc; obtain ⟨x, _, rfl⟩ := List.mem_map.1 hc; rfl
theorem chs_get {cs : List Ch} {i : Nat} {c : Ch} (h : cs[i]? = some c) : ((chs cs).drop (i * 3)).take 3 = [S c.key, S c.val, .bool c.del] :=
  flatten_elem chV_len (by rw [List.getElem?_map, h]; rfl)
theorem prs_get {ps : List Pr} {i : Nat} {p : Pr} (h : ps[i]? = some p) : ((prs ps).drop (i * 2)).take 2 = [S p.1, S p.2] :=
  flatten_elem prV_len (by rw [List.getElem?_map, h]; rfl)
theorem chs_len (cs : List Ch) : (chs cs).length = cs.length * 3 := by rw [flatten_len chV_len]; simp
theorem prs_len (ps : List Pr) : (prs ps).length = ps.length * 2 := by rw [flatten_len prV_len]; simp
theorem chs_snoc (cs : List Ch) (c : Ch) : chs (cs ++ [c]) = chs cs ++ [S c.key, S c.val, .bool c.del] := by simp [chs, chV]
theorem prs_snoc (ps : List Pr) (p : Pr) : prs (ps ++ [p]) = prs ps ++ [S p.1, S p.2] := by simp [prs, prV]
/-- Changes written down. -/
def encF : List Ch → Str
  | [] => []
  | c :: cs => (if c.del then 1 else 0) :: (be 4 c.key.length ++ c.key ++ (be 4 c.val.length ++ c.val ++ encF cs))
theorem encF_append (a b : List Ch) : encF (a ++ b) = encF a ++ encF b := by
  induction a with
  | nil => rfl
  | cons x xs ih => simp [encF, ih]
def chW (c : Ch) : Nat := 9 + c.key.length + c.val.length
theorem encF_len (cs : List Ch) : (encF cs).length = (cs.map chW).sum := by
  induction cs with
  | nil => rfl
  | cons x xs ih => simp [encF, ih, be_length, chW]; omega
theorem encF_snoc (cs : List Ch) (c : Ch) : encF (cs ++ [c]) = encF cs ++ [if c.del then 1 else 0] ++ be 4 c.key.length ++ c.key ++ be 4 c.val.length ++ c.val := by
  rw [encF_append]; simp [encF]
/-- All octets. -/
def sumB (es : List Pr) : Nat := (es.map fun p => p.1.length + p.2.length).sum
/-- A change is made. -/
def apE (es : List Pr) (c : Ch) : List Pr := if c.del then del c.key es else ins c.key c.val (del c.key es)
theorem sumB_del {k v : Str} : ∀ {es : List Pr}, lkp k es = some v → sumB (del k es) + (k.length + v.length) = sumB es
  | [], h => by cases h
  | (k1, v1) :: es, h => by
    by_cases h1 : k1 = k
    · simp [lkp, h1] at h; subst h; simp [del, h1, sumB]; omega
    · simp [lkp, h1] at h
      have := sumB_del h
      simp [del, h1, sumB] at this ⊢; omega
theorem sumB_append (a b : List Pr) : sumB (a ++ b) = sumB a + sumB b := by simp [sumB]
theorem sumB_new {k v : Str} {es : List Pr} (h : lkp k es = none) : sumB (ins k v es) = sumB es + (k.length + v.length) := by
  rw [keys_ins_new h, sumB_append]; simp [sumB]
theorem apE_nodup {es : List Pr} {c : Ch} (h : (es.map Prod.fst).Nodup) : ((apE es c).map Prod.fst).Nodup := by
  unfold apE; split
  · exact nodup_del h
  · exact nodup_ins (nodup_del h)
theorem apE_lkp {es : List Pr} {c : Ch} (h : (es.map Prod.fst).Nodup) (k : Str) : lkp k (apE es c) = if c.key = k then (if c.del then none else some c.val) else lkp k es := by
  unfold apE
  split
  · split
    · rename_i h1 h2; subst h2; exact lkp_del_self h
    · rename_i h1 h2; exact lkp_del_ne h2 es
  · rw [lkp_ins]
    split
    · rfl
    · rename_i h1 h2; exact lkp_del_ne h2 es
theorem apE_sum {es : List Pr} {c : Ch} (h : (es.map Prod.fst).Nodup) : sumB (apE es c) ≤ sumB es + (c.key.length + c.val.length) := by
  unfold apE
  have h1 : sumB (del c.key es) ≤ sumB es := by
    cases hq : lkp c.key es with
    | none => rw [del_none hq]; exact Nat.le_refl _
    | some v => have := sumB_del hq; omega
  split
  · omega
  · rw [sumB_new (lkp_del_self h)]; omega
theorem apE_len {es : List Pr} {c : Ch} (h : (es.map Prod.fst).Nodup) : (apE es c).length ≤ es.length + 1 := by
  unfold apE
  have h1 : (del c.key es).length ≤ es.length := (del_sub _ _).length_le
  split
  · omega
  · rw [keys_ins_new (lkp_del_self h)]; simp; omega
/-- An entry's value in the map. -/
def cv (p : Pr) : Str × Value := (p.1, .agg #[S p.2])
theorem cv_lkp (k : Str) : ∀ es : List Pr, lkp k (es.map cv) = (lkp k es).map fun v => Value.agg #[S v]
  | [] => rfl
  | (k1, v1) :: es => by
    simp only [List.map_cons, cv, lkp]
    split
    · rfl
    · exact cv_lkp k es
theorem cv_del (k : Str) : ∀ es : List Pr, del k (es.map cv) = (del k es).map cv
  | [] => rfl
  | (k1, v1) :: es => by
    have ih := cv_del k es
    simp only [List.map_cons, cv, del] at ih ⊢
    split
    · rfl
    · rw [ih]; rfl
theorem cv_ins (k v : Str) : ∀ es : List Pr, ins k (.agg #[S v]) (es.map cv) = (ins k v es).map cv
  | [] => rfl
  | (k1, v1) :: es => by
    have ih := cv_ins k v es
    simp only [List.map_cons, cv, ins] at ih ⊢
    split
    · rfl
    · rw [ih]; rfl
/-! ### What Commit does -/
def sumC (cs : List Ch) : Nat := (cs.map fun c => c.key.length + if c.del then 0 else c.val.length).sum
theorem sumC_succ {cs : List Ch} {i : Nat} {c : Ch} (h : cs[i]? = some c) : sumC (cs.take (i + 1)) = sumC (cs.take i) + (c.key.length + if c.del then 0 else c.val.length) := by
  unfold sumC; rw [List.take_add_one, h]; simp
theorem sumC_le (cs : List Ch) : sumC cs ≤ (cs.map chW).sum := by
  induction cs with
  | nil => exact Nat.le_refl _
  | cons c cs ih => simp only [sumC, List.map_cons, List.sum_cons, chW] at ih ⊢; split <;> omega
theorem sum_take (l : List Nat) (i : Nat) : (l.take i).sum ≤ l.sum := by
  conv => rhs; rw [← List.take_append_drop i l]
  rw [List.sum_append]; omega
theorem sumC_take (cs : List Ch) (i : Nat) : sumC (cs.take i) ≤ sumC cs := by unfold sumC; rw [List.map_take]; exact sum_take _ _
theorem chW_take (cs : List Ch) (i : Nat) : ((cs.take i).map chW).sum ≤ (cs.map chW).sum := by rw [List.map_take]; exact sum_take _ _
theorem chW_mem {cs : List Ch} {c : Ch} (h : c ∈ cs) : chW c ≤ (cs.map chW).sum := by
  induction cs with
  | nil => cases h
  | cons d ds ih => rcases List.mem_cons.1 h with rfl | h; simp; have := ih h; simp; omega
theorem len_chW (cs : List Ch) : cs.length * 9 ≤ (cs.map chW).sum := by
  induction cs with
  | nil => simp
  | cons d ds ih => simp [chW]; omega
def okKey (c : Ch) : Prop := c.key ≠ [] ∧ c.key.length ≤ 255
instance (c : Ch) : Decidable (okKey c) := by unfold okKey; infer_instance
def checkF (cs : List Ch) : Int := if 10000 < cs.length ∨ 500000 < sumC cs then 1 else if ∀ c ∈ cs, okKey c then 0 else 130
def mk (c : Ch) : Ch := if c.del then { c with val := [] } else c
def made (cs : List Ch) : List Ch := cs.map mk
def madeI (i : Nat) (cs : List Ch) : List Ch := (cs.take i).map mk ++ cs.drop i
theorem madeI_get {cs : List Ch} {i : Nat} {c : Ch} (h : cs[i]? = some c) : (madeI i cs)[i]? = some c := by
  have hi := (List.getElem?_eq_some_iff.1 h).1
  unfold madeI
  have hl : ((cs.take i).map mk).length = i := by simp; omega
  rw [List.getElem?_append_right (by omega), hl, Nat.sub_self, List.getElem?_drop, Nat.add_zero, h]
theorem madeI_len (i : Nat) (cs : List Ch) : (madeI i cs).length = cs.length := by unfold madeI; simp; omega
theorem madeI_succ {cs : List Ch} {i : Nat} {c : Ch} (h : cs[i]? = some c) : madeI (i + 1) cs = (madeI i cs).set i (mk c) := by
  obtain ⟨hi, hc⟩ := List.getElem?_eq_some_iff.1 h
  unfold madeI
  have hl : ((cs.take i).map mk).length = i := by simp; omega
  rw [List.take_add_one, h, List.set_append_right _ _ (by omega), hl, Nat.sub_self, List.drop_eq_getElem_cons hi, hc]
  simp
theorem madeI_end (cs : List Ch) : madeI cs.length cs = made cs := by simp [madeI, made]
theorem made_len (cs : List Ch) : (made cs).length = cs.length := by simp [made]
theorem chs_made {cs : List Ch} {i : Nat} {c : Ch} (h : cs[i]? = some c) (hd : c.del = true) : (chs (madeI i cs)).set (i * 3 + 1) (S []) = chs (madeI (i + 1) cs) := by
  have h1 := madeI_get h
  have h2 := flatten_set (css := (madeI i cs).map chV) chV_len (k := 3) (i := i) (j := 1) (c := chV c) (by rw [List.getElem?_map, h1]; rfl) (by omega) (S [])
  rw [madeI_succ h]
  show ((madeI i cs).map chV).flatten.set (i * 3 + 1) (S []) = (((madeI i cs).set i (mk c)).map chV).flatten
  rw [h2, List.map_set]
  congr 2
  simp [mk, hd, chV]
theorem chs_kept {cs : List Ch} {i : Nat} {c : Ch} (h : cs[i]? = some c) (hd : c.del = false) : madeI (i + 1) cs = madeI i cs := by
  rw [madeI_succ h]
  have : mk c = c := by simp [mk, hd]
  rw [this]
  obtain ⟨hi, hc⟩ := List.getElem?_eq_some_iff.1 (madeI_get h)
  rw [← hc]; exact List.set_getElem_self hi
def afterE (es : List Pr) (cs : List Ch) : List Pr := cs.foldl apE es
theorem apE_mk (es : List Pr) (c : Ch) : apE es (mk c) = apE es c := by
  unfold mk apE
  by_cases h : c.del = true <;> simp [h]
theorem afterE_made (es : List Pr) (cs : List Ch) : afterE es (made cs) = afterE es cs := by
  unfold afterE made
  rw [List.foldl_map]
  congr 1
  funext es c
  exact apE_mk es c
theorem afterE_succ {es : List Pr} {cs : List Ch} {i : Nat} {c : Ch} (h : cs[i]? = some c) : afterE es (cs.take (i + 1)) = apE (afterE es (cs.take i)) c := by
  unfold afterE; rw [List.take_add_one, h, List.foldl_append]; rfl
theorem afterE_nodup {es : List Pr} (h : (es.map Prod.fst).Nodup) (cs : List Ch) : ((afterE es cs).map Prod.fst).Nodup := by
  unfold afterE
  induction cs generalizing es with
  | nil => exact h
  | cons c cs ih => exact ih (apE_nodup h)
theorem afterE_sum {es : List Pr} (h : (es.map Prod.fst).Nodup) (cs : List Ch) : sumB (afterE es cs) ≤ sumB es + (cs.map chW).sum ∧ (afterE es cs).length ≤ es.length + cs.length := by
  unfold afterE
  induction cs generalizing es with
  | nil => exact ⟨by simp, by simp⟩
  | cons c cs ih =>
    have h1 := ih (apE_nodup h (c := c))
    have h2 := apE_sum h (c := c)
    have h3 := apE_len h (c := c)
    simp only [List.foldl_cons, List.map_cons, List.sum_cons, List.length_cons, chW] at h1 ⊢
    omega
theorem made_W (cs : List Ch) : ((made cs).map chW).sum ≤ (cs.map chW).sum := by
  unfold made
  induction cs with
  | nil => simp
  | cons c cs ih =>
    simp only [List.map_cons, List.sum_cons] at ih ⊢
    have : chW (mk c) ≤ chW c := by unfold mk chW; split <;> simp
    omega
theorem made_C (cs : List Ch) : ((made cs).map chW).sum = 9 * cs.length + sumC cs := by
  unfold made sumC
  induction cs with
  | nil => simp
  | cons c cs ih =>
    simp only [List.map_cons, List.sum_cons, List.length_cons] at ih ⊢
    have : chW (mk c) = 9 + (c.key.length + if c.del then 0 else c.val.length) := by
      unfold mk chW
      by_cases h : c.del = true <;> simp [h] <;> omega
    omega
end Go.Proofs.YteejmoldhbfdnaaGreatDoor.CatL
