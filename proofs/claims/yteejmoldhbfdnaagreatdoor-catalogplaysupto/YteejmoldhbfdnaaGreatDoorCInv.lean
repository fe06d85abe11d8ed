/- What holds of a catalog from call to call: plain laws. -/
import Derived.Test.YteejmoldhbfdnaaGreatDoorCat4
namespace Go.Proofs.YteejmoldhbfdnaaGreatDoor.CInv
open Go.W Go.RowKit Seal Disk Wal Num Wal2 CatL Cat2 Cat3 Cat4
theorem perm_of_lkp {a b : List Pr} (ha : (a.map Prod.fst).Nodup) (hb : (b.map Prod.fst).Nodup) (h : ∀ k, lkp k a = lkp k b) : a.Perm b := by
  refine (List.perm_ext_iff_of_nodup (nodup_of_map _ ha) (nodup_of_map _ hb)).2 fun x => ?_
  constructor
  · intro hx
    exact lkp_mem (by rw [← h]; exact lkp_of_mem ha (show (x.1, x.2) ∈ a from hx))
  · intro hx
    exact lkp_mem (by rw [h]; exact lkp_of_mem hb (show (x.1, x.2) ∈ b from hx))
theorem lkp_perm {a b : List Pr} (ha : (a.map Prod.fst).Nodup) (h : a.Perm b) (k : Str) : lkp k a = lkp k b := by
  have hb : (b.map Prod.fst).Nodup := (h.map Prod.fst).nodup_iff.1 ha
  cases hq : lkp k a with
  | some v => exact (lkp_of_mem hb (h.mem_iff.1 (lkp_mem hq))).symm
  | none =>
    cases hq2 : lkp k b with
    | none => rfl
    | some v => rw [lkp_of_mem ha (h.mem_iff.2 (lkp_mem hq2))] at hq; cases hq
theorem apE_perm {a b : List Pr} (ha : (a.map Prod.fst).Nodup) (h : a.Perm b) (c : Ch) : (apE a c).Perm (apE b c) := by
  have hb : (b.map Prod.fst).Nodup := (h.map Prod.fst).nodup_iff.1 ha
  refine perm_of_lkp (apE_nodup ha) (apE_nodup hb) fun k => ?_
  rw [apE_lkp ha, apE_lkp hb, lkp_perm ha h]
theorem afterE_perm {cs : List Ch} : ∀ {a b : List Pr}, (a.map Prod.fst).Nodup → a.Perm b → (afterE a cs).Perm (afterE b cs) := by
  induction cs with
  | nil => intro a b _ h; exact h
  | cons c cs ih => intro a b ha h; exact ih (apE_nodup ha) (apE_perm ha h c)
theorem pairsOf_congr {a b : List Pr} (ha : (a.map Prod.fst).Nodup) (h : a.Perm b) : pairsOf a = pairsOf b := by
  unfold pairsOf
  have h1 : sk a = sk b := sort_str (h.map Prod.fst)
  rw [h1]
  apply List.map_congr_left
  intro k _
  rw [lkp_perm ha h]
theorem afterE_append (es : List Pr) (a b : List Ch) : afterE es (a ++ b) = afterE (afterE es a) b := by unfold afterE; rw [List.foldl_append]
theorem afterE_chOf : ∀ {ps acc : List Pr}, ((acc ++ ps).map Prod.fst).Nodup → afterE acc (chOf ps) = acc ++ ps
  | [], acc, _ => by simp [chOf, afterE]
  | p :: ps, acc, h => by
    have hk : lkp p.1 acc = none := by
      rw [lkp_none]
      intro hm
      rw [List.map_append, List.map_cons] at h
      have := (List.nodup_append.1 h).2.2 _ hm p.1 (.head _)
      exact this rfl
    have h1 : apE acc ⟨p.1, p.2, false⟩ = acc ++ [p] := by
      unfold apE
      rw [if_neg (by simp), del_none hk, keys_ins_new hk]
    show afterE (apE acc ⟨p.1, p.2, false⟩) (chOf ps) = _
    rw [h1, afterE_chOf (by simpa using h)]
    simp
theorem after_last {cs : List Ch} {x : Ch} : ∀ {es : List Pr} {i : Nat}, (es.map Prod.fst).Nodup → cs[i]? = some x → (∀ y ∈ cs.drop (i + 1), y.key ≠ x.key) → lkp x.key (afterE es cs) = if x.del then none else some x.val := by
  have keep : ∀ (ds : List Ch) (es : List Pr), (es.map Prod.fst).Nodup → (∀ y ∈ ds, y.key ≠ x.key) → lkp x.key (afterE es ds) = lkp x.key es := by
    intro ds
    induction ds with
    | nil => intro es _ _; rfl
    | cons d ds ih =>
      intro es hes h
      show lkp x.key (afterE (apE es d) ds) = _
      rw [ih _ (apE_nodup hes) (fun y hy => h y (.tail _ hy)), apE_lkp hes, if_neg (h d (.head _))]
  intro es i hes hx hl
  obtain ⟨hi, hc⟩ := List.getElem?_eq_some_iff.1 hx
  have hsp : cs = cs.take i ++ x :: cs.drop (i + 1) := by
    conv => lhs; rw [← List.take_append_drop i cs, List.drop_eq_getElem_cons hi, hc]
  rw [hsp, afterE_append]
  show lkp x.key (afterE (apE (afterE es (cs.take i)) x) (cs.drop (i + 1))) = _
  rw [keep _ _ (apE_nodup (afterE_nodup hes _)) hl, apE_lkp (afterE_nodup hes _), if_pos rfl]
/-- A log's octets. -/
def logOf (hist : List (List Ch)) : Str := ((hist.map encF).map wrapped).flatten
theorem logOf_len (hist : List (List Ch)) : (logOf hist).length = 8 * hist.length + (hist.flatten.map chW).sum := by
  unfold logOf
  induction hist with
  | nil => rfl
  | cons h hs ih => simp only [List.map_cons, List.flatten_cons, List.length_append, List.length_cons, List.map_append, List.sum_append, wrapped_length, encF_len] at ih ⊢; omega
theorem logOf_snoc (hist : List (List Ch)) (cs : List Ch) : logOf (hist ++ [cs]) = logOf hist ++ wrapped (encF cs) := by simp [logOf]
structure CI (U K : Nat) (es : List Pr) (hist : List (List Ch)) (g size : Nat) (D : DK) : Prop where
  files : D.files = [(fileF catB g, (logOf hist, logOf hist))]
  pend : D.pend = []
  room : D.room = 1099511627776
  size : size = (logOf hist).length
  ne : hist ≠ []
  nd : (es.map Prod.fst).Nodup
  perm : (afterE [] hist.flatten).Perm es
  W : (hist.flatten.map chW).sum ≤ U
  hK : hist.length ≤ K
  rl : ∀ x ∈ hist, (encF x).length ≤ 1048576
  el : es.length ≤ 10000
  sb : sumB es ≤ 500000
  g1 : 1 ≤ g
  gK : g ≤ K
  sU : 9 * es.length + sumB es ≤ U
section
variable {U K : Nat} {es : List Pr} {hist : List (List Ch)} {g size : Nat} {D : DK}
theorem CI.used (h : CI U K es hist g size D) : D.used = (logOf hist).length := by simp [DK.used, h.files, usedF]
theorem CI.le (h : CI U K es hist g size D) : (logOf hist).length ≤ 8 * K + U := by have h1 := logOf_len hist; have := h.W; have := h.hK; omega
theorem CI.po (h : CI U K es hist g size D) : PendOK D := fun x hx => by rw [h.pend] at hx; cases hx
theorem CI.mono (h : CI U K es hist g size D) {U' K' : Nat} (hU : U ≤ U') (hK : K ≤ K') : CI U' K' es hist g size D :=
  ⟨h.files, h.pend, h.room, h.size, h.ne, h.nd, h.perm, Nat.le_trans h.W hU, Nat.le_trans h.hK hK, h.rl, h.el, h.sb, h.g1, Nat.le_trans h.gK hK, Nat.le_trans h.sU hU⟩
theorem CI.lk (h : CI U K es hist g size D) : lkp (fileF catB g) D.files = some (logOf hist, logOf hist) := by rw [h.files]; simp [lkp]
theorem CI.names (h : CI U K es hist g size D) (hg : g ≤ 999999999) : ∀ x, (lkp x D.files).isSome = true → x.length ≤ 1000 := fun x hx => by
  rw [h.files] at hx
  by_cases hq : fileF catB g = x
  · rw [← hq]; have := (good_file (b := catB) (n := g) okCat hg).2.1; omega
  · simp [lkp, hq] at hx
theorem CI.fits (h : CI U K es hist g size D) : Fits D := by
  refine ⟨fun nm d s hk => ?_, fun x hx => ?_⟩
  · rw [h.files] at hk
    by_cases hq : fileF catB g = nm
    · simp [lkp, hq] at hk; rw [← hk.1, ← hk.2]; exact Nat.le_refl _
    · simp [lkp, hq] at hk
  · rw [h.pend] at hx; cases hx
/-- What a crash leaves. -/
theorem CI.left (h : CI U K es hist g size D) (keep : List Bool) (tear : Int) : D.left keep tear = [(fileF catB g, logOf hist)] := by
  have h1 : D.names = [fileF catB g] := by simp [DK.names, h.files]
  have h2 : D.crash keep tear = D.safeF := by simp [DK.crash, h.pend, crashN]
  unfold DK.left
  rw [h1, h2]
  simp [DK.safeF, h.files, lkp]
theorem CI.opened (h : CI U K es hist g size D) : openD [(fileF catB g, logOf hist)] 1099511627776 = D := by
  have h1 := h.files
  have h2 := h.pend
  have h3 := h.room
  cases D
  dsimp only at h1 h2 h3
  subst h1 h2 h3
  rfl
/-- The catalog that is opened anew. -/
theorem CI.anew (h : CI U K es hist g size D) : CI U K (afterE [] hist.flatten) hist g (logOf hist).length D := by
  have hs := sumB_perm h.perm
  have hl := h.perm.length_eq
  exact ⟨h.files, h.pend, h.room, rfl, h.ne, afterE_nodup (es := []) .nil _, .refl _, h.W, h.hK, h.rl, by have := h.el; omega, by have := h.sb; omega, h.g1, h.gK, by have := h.sU; omega⟩
theorem CI.pairs (h : CI U K es hist g size D) : pairsOf (afterE [] hist.flatten) = pairsOf es := pairsOf_congr (afterE_nodup (es := []) .nil _) h.perm
theorem putD_files {f b w : Str} (hf : D.files = [(f, (b, b))]) (hp : D.pend = []) : (D.append f w).sync = { D with files := [(f, (b ++ w, b ++ w))], pend := [] } := by
  simp [DK.append, DK.sync, hf, hp, ins, syncF, lkp]
theorem CI.commit {cs : List Ch} (h : CI U K es hist g size D) (hd : doneF es cs = true) :
    CI (U + (cs.map chW).sum) (K + 1) (afterE es cs) (hist ++ [made cs]) g (size + (wrapped (encF (made cs))).length) (putD D g (encF (made cs))) := by
  have hd' := of_decide_eq_true hd
  obtain ⟨h0, h1, h2, h3⟩ := hd'
  have hmW := made_W cs
  have hmC := made_C cs
  have hno : ¬ (10000 < cs.length ∨ 500000 < sumC cs) := fun q => by unfold checkF at h0; rw [if_pos q] at h0; omega
  have hW := h.W
  have hK := h.hK
  have hgK := h.gK
  refine ⟨?_, ?_, ?_, ?_, by simp, afterE_nodup h.nd _, ?_, ?_, ?_, ?_, h2, h3, h.g1, by omega, ?_⟩
  · unfold putD; rw [putD_files h.files h.pend, logOf_snoc]
  · unfold putD; rw [putD_files h.files h.pend]
  · unfold putD; rw [putD_files h.files h.pend]; exact h.room
  · rw [logOf_snoc, List.length_append, h.size]
  · rw [List.flatten_append, List.flatten_cons, List.flatten_nil, List.append_nil, afterE_append]
    have := afterE_perm (cs := made cs) (afterE_nodup (es := []) .nil _) h.perm
    rw [afterE_made es cs] at this
    exact this
  · rw [List.flatten_append, List.flatten_cons, List.flatten_nil, List.append_nil, List.map_append, List.sum_append]; omega
  · simp; omega
  · intro x hx
    rcases List.mem_append.1 hx with hx | hx
    · exact h.rl x hx
    · simp at hx; subst hx; rw [encF_len, hmC]; omega
  · have hs := afterE_sum h.nd cs
    have hn := len_chW cs
    have hsU := h.sU
    have key : ∀ (ds : List Ch) (es : List Pr), (es.map Prod.fst).Nodup → 9 * (afterE es ds).length + sumB (afterE es ds) ≤ 9 * es.length + sumB es + (ds.map chW).sum := by
      intro ds
      induction ds with
      | nil => intro es _; simp [afterE]
      | cons d ds ih =>
        intro es hes
        have i1 := ih _ (apE_nodup hes (c := d))
        have i2 := apE_sum hes (c := d)
        have i3 := apE_len hes (c := d)
        show 9 * (afterE (apE es d) ds).length + sumB (afterE (apE es d) ds) ≤ _
        simp only [List.map_cons, List.sum_cons, chW]
        omega
    have := key cs es h.nd
    omega
theorem renewD_files {b r : Str} {gen : Nat} (hf : D.files = [(fileF catB gen, (b, b))]) (hp : D.pend = []) :
    renewD D catB gen r = { D with files := [(fileF catB (gen + 1), (wrapped r, wrapped r))], pend := [] } := by
  have hne : ¬ fileF catB gen = fileF catB (gen + 1) := fun q => by have := file_inj q; omega
  simp [renewD, DK.append, DK.sync, hf, hp, ins, syncF, lkp, del, hne]
theorem CI.compact (h : CI U K es hist g size D) : CI U (K + 1) es [chOf (pairsOf es)] (g + 1) (wrapped (encF (chOf (pairsOf es)))).length (renewD D catB g (encF (chOf (pairsOf es)))) := by
  have hp := pairsOf_perm h.nd
  have hW := chOf_W (pairsOf es)
  have hl := pairs_len es
  have hs := sumB_perm hp
  have hsU := h.sU
  have hgK := h.gK
  have hel := h.el
  have hsb := h.sb
  refine ⟨?_, ?_, ?_, ?_, by simp, h.nd, ?_, ?_, by simp, ?_, h.el, h.sb, by omega, by omega, h.sU⟩
  · rw [renewD_files h.files h.pend]; simp [logOf]
  · rw [renewD_files h.files h.pend]
  · rw [renewD_files h.files h.pend]; exact h.room
  · simp [logOf]
  · rw [List.flatten_cons, List.flatten_nil, List.append_nil]
    have hnd : (([] ++ pairsOf es).map Prod.fst).Nodup := (hp.map Prod.fst).nodup_iff.2 h.nd
    rw [afterE_chOf hnd]
    exact hp
  · rw [List.flatten_cons, List.flatten_nil, List.append_nil, hW]; omega
  · intro x hx
    simp at hx; subst hx
    rw [encF_len, hW]; omega
theorem CI.usedRenew (h : CI U K es hist g size D) : (renewD D catB g (encF (chOf (pairsOf es)))).used = 8 + (9 * es.length + sumB es) := by
  have hp := pairsOf_perm h.nd
  rw [renewD_files h.files h.pend]
  simp [DK.used, usedF, wrapped_length, encF_len, chOf_W, pairs_len, sumB_perm hp]
theorem CI.start : CI 0 1 [] [[]] 1 8 (putD ⟨[], [], 1099511627776⟩ 1 []) := by
  have hw : (wrapped []).length = 8 := by rw [wrapped_length]; rfl
  have hD : putD ⟨[], [], 1099511627776⟩ 1 [] = ⟨[(fileF catB 1, (wrapped [], wrapped []))], [], 1099511627776⟩ := by
    simp [putD, DK.append, DK.sync, ins, syncF, lkp]
  rw [hD]
  refine ⟨?_, rfl, rfl, ?_, by simp, .nil, .refl _, by simp, by simp, ?_, by simp, by simp [sumB], by omega, by omega, by simp [sumB]⟩
  · simp [logOf, encF]
  · simp [logOf, encF, hw]
  · intro x hx; simp at hx; subst hx; simp [encF]
end
end Go.Proofs.YteejmoldhbfdnaaGreatDoor.CInv
