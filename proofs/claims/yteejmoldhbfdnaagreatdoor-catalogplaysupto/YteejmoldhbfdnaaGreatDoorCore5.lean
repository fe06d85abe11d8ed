/- Ranges over maps. -/
import Derived.Test.YteejmoldhbfdnaaGreatDoorCore4
import Derived.Laws.StructEq
open Go
namespace Go.W
open Go.RowKit Go.MapKept
section
variable {κ : Type} [MKey κ]
open MKey Classical
theorem nodup_inj {α β : Type} {f : α → β} : ∀ {l : List α}, (l.map f).Nodup → ∀ {x y : α}, x ∈ l → y ∈ l → f x = f y → x = y
  | [], _, _, _, hx, _, _ => by cases hx
  | a :: l, h, x, y, hx, hy, q => by
    simp only [List.map_cons, List.nodup_cons] at h
    rcases List.mem_cons.1 hx with ex | hx
    · rcases List.mem_cons.1 hy with ey | hy
      · rw [ex, ey]
      · exact absurd (List.mem_map.2 ⟨y, hy, by rw [← q, ex]⟩) h.1
    · rcases List.mem_cons.1 hy with ey | hy
      · exact absurd (List.mem_map.2 ⟨x, hx, by rw [q, ey]⟩) h.1
      · exact nodup_inj h.2 hx hy q
abbrev ents (L : List MapEntry) : List (Value × Value) := L.map fun m => (m.key, m.val)
abbrev encs (kvs : List (κ × Value)) : List (Value × Value) := kvs.map fun p => (enc p.1, p.2)
theorem del_none {V : Type} {k : κ} : ∀ {m : List (κ × V)}, lkp k m = none → del k m = m
  | [], _ => rfl
  | (k1, v1) :: m, h => by
    by_cases h1 : k1 = k
    · simp [lkp, h1] at h
    · simp [lkp, h1] at h; simp [del, h1, del_none h]
/-- The entries without a key. -/
theorem ents_del {k : κ} : ∀ {L : List MapEntry} {left : List (κ × Value)}, ents L = encs left → (L.map (·.key)).Nodup → ents (L.filter fun x => !decide (x.key = enc k)) = encs (del k left)
  | [], left, h, _ => by
    have : left = [] := by cases left <;> simp at h ⊢
    subst this; rfl
  | m :: L, [], h, _ => by simp at h
  | m :: L, (k', v') :: left, h, hn => by
    simp only [List.map_cons, List.cons.injEq, Prod.mk.injEq] at h
    obtain ⟨⟨h1, h2⟩, h3⟩ := h
    simp only [List.map_cons, List.nodup_cons] at hn
    by_cases hk : k' = k
    · subst hk
      have hall : ∀ x ∈ L, x.key ≠ enc k' := fun x hx q => hn.1 (List.mem_map.2 ⟨x, hx, by rw [q, h1]⟩)
      have hf : L.filter (fun x => !decide (x.key = enc k')) = L := List.filter_eq_self.2 fun x hx => by simp [hall x hx]
      simp only [List.filter_cons, h1, decide_true, Bool.not_true, Bool.false_eq_true, if_false, hf, del, if_true]
      exact h3
    · have hne : ¬ m.key = enc k := fun q => hk (inj _ _ (h1.symm.trans q))
      have ih := ents_del (k := k) h3 hn.2
      have hf : (m :: L).filter (fun x => !decide (x.key = enc k)) = m :: L.filter (fun x => !decide (x.key = enc k)) := by rw [List.filter_cons]; simp [hne]
      rw [hf]
      simp only [del, hk, if_false, List.map_cons, h1, h2]
      exact congrArg _ ih
theorem erase_filter : ∀ {L : List MapEntry} {j : Nat} {m : MapEntry}, L[j]? = some m → (L.map (·.key)).Nodup → L.eraseIdx j = L.filter fun x => !decide (x.key = m.key)
  | [], _, _, h, _ => by simp at h
  | x :: L, 0, m, h, hn => by
    simp at h; subst h
    simp only [List.map_cons, List.nodup_cons] at hn
    have hf : L.filter (fun y => !decide (y.key = x.key)) = L := List.filter_eq_self.2 fun y hy => by
      have : y.key ≠ x.key := fun q => hn.1 (List.mem_map.2 ⟨y, hy, q⟩)
      simp [this]
    simp [hf]
  | x :: L, j + 1, m, h, hn => by
    simp only [List.map_cons, List.nodup_cons] at hn
    have h' : L[j]? = some m := by simpa using h
    have hne : x.key ≠ m.key := fun q => hn.1 (List.mem_map.2 ⟨m, List.mem_of_getElem? h', q.symm⟩)
    simp [hne, erase_filter h' hn.2]
/-- A range over a map stands here: these are left; this one is at hand. -/
def IterO (mb : Nat) (kvs left : List (κ × Value)) (cur : Option (κ × Value)) (ob io : Obj) : Prop :=
  ∃ es clock since seen c, ob = .map es clock ∧ ents es.toList = encs kvs ∧ Stamped es clock ∧ io = .mapIter (some mb) since seen c ∧ (∀ x ∈ es.toList, x.born < since) ∧ (since ≤ c ∧ since ≤ clock) ∧
    ents (es.toList.filter fun x => !seen.contains x.born) = encs left ∧
    ∀ k v, cur = some (k, v) → c = clock ∧ ∃ x ∈ es.toList, ∃ seen' : Array Nat, seen = seen'.push x.born ∧ x.key = enc k ∧ x.val = v
variable {mb r : Nat} {kvs left : List (κ × Value)} {cur : Option (κ × Value)} {ob io : Obj} {k : κ}
theorem IterO.mapO (h : IterO mb kvs left cur ob io) : MapO kvs ob := by
  obtain ⟨es, clock, since, seen, c, h1, h2, h3, _⟩ := h
  exact ⟨es, clock, h1, h2, h3⟩
theorem IterO.drop (h : IterO mb kvs left cur ob io) : IterO mb kvs left none ob io := by
  obtain ⟨es, clock, since, seen, c, h1, h2, h3, h4, h5, h6, h7, _⟩ := h
  exact ⟨es, clock, since, seen, c, h1, h2, h3, h4, h5, h6, h7, fun _ _ h => by cases h⟩
theorem encs_mem {kvs : List (κ × Value)} {a b : Value} (h : (a, b) ∈ encs kvs) : ∃ k v, (k, v) ∈ kvs ∧ enc k = a ∧ v = b := by
  obtain ⟨⟨k, v⟩, hm, e⟩ := List.mem_map.1 h
  simp only [Prod.mk.injEq] at e
  exact ⟨k, v, hm, e.1, e.2⟩
section
variable {P : Program} {e : Ctx} {n : Nat} {l : List (Nat × Value)} {As F : List Hp} {dst : Option Tmp} {ty : TypeId} {pos : String} {after : Array Edge} {g : Option (Nat × Bool)} {z : Value} {x y : Operand} {t : TypeId} {A : Hp}
theorem opE_range (ht : mapInfo P t = some (MKey.desc κ, z)) (hx : ev l x = some (.map (some mb))) (hA : Has e As A) (hb : (mb, ob) ∈ A) (hM : MapO kvs ob) :
    OpE P e n ⟨dst, .range t x, ty, pos, after, g⟩ l As (fun v Bs => ∃ r io, v = .pointer (some ⟨r, 0, none⟩) ∧ IterO mb kvs kvs none ob io ∧ Bs = [(r, io)] :: As) := fun a w h => by
  obtain ⟨K, E, hu, _, _⟩ := mapInfo_spec ht
  obtain ⟨es, clock, rfl, hes, hst⟩ := hM
  have hb' := h.owns.has hA hb
  have h1 := run_range_map (P := P) w t K E mb es clock hu hb'
  refine ⟨_, w.alloc (.mapIter (some mb) clock #[] clock), _, ?_, ⟨w.heap.size, _, rfl, ⟨es, clock, clock, #[], clock, rfl, hes, hst, rfl, hst.1, ⟨Nat.le_refl _, Nat.le_refl _⟩, ?_, fun _ _ h => by cases h⟩, rfl⟩, h.owns.alloc _⟩
  · simp only [execOp, h.eval hx, Sem.run_bind, h1]; rfl
  · have : es.toList.filter (fun x => !(#[] : Array Nat).contains x.born) = es.toList := List.filter_eq_self.2 fun x _ => by simp
    rw [this]; exact hes
theorem run_next_iter {w : World} (hI : IterO mb kvs left cur ob io) (hr : w.heap[r]? = some io) (hb : w.heap[mb]? = some ob) :
    ∃ v io' w', (Instr.next (.pointer (some ⟨r, 0, none⟩)) false ty).run P w = .ok v w' ∧ w'.heap = w.heap.setIfInBounds r io' ∧ w'.os = w.os ∧ w'.tape = w.tape ∧ w'.output = w.output ∧
      ((left = [] ∧ v = .tuple #[.bool false] ∧ io' = io) ∨ ∃ k x, (k, x) ∈ left ∧ v = .tuple #[.bool true, enc k, x] ∧ IterO mb kvs (del k left) (some (k, x)) ob io') := by
  obtain ⟨es, clock, since, seen, c, rfl, hes, hst, rfl, hold, hsc, hleft, _⟩ := hI
  have hlo : (leftOf es seen).toList = es.toList.filter fun x => !seen.contains x.born := by simp [leftOf]
  rcases run_next_at (P := P) w ty r mb since c seen es clock hr hb hold hsc.1 with ⟨h0, hrun⟩ | ⟨m, hm, w1, hw1, hrun⟩
  · refine ⟨_, .mapIter (some mb) since seen c, w, hrun, ?_, rfl, rfl, rfl, .inl ⟨?_, rfl, rfl⟩⟩
    · apply Array.ext_getElem?
      intro i
      rw [Array.getElem?_setIfInBounds]
      split
      · rename_i hi
        subst hi
        have hlt : r < w.heap.size := (Array.getElem?_eq_some_iff.1 hr).1
        rw [if_pos hlt, hr]
      · rfl
    · have : (leftOf es seen).toList = [] := by
        have := Array.eq_empty_of_size_eq_zero h0
        rw [this]
      rw [hlo] at this
      rw [this] at hleft
      cases left <;> simp at hleft ⊢
  · rw [hlo] at hm
    have hm2 : (m.key, m.val) ∈ encs left := by rw [← hleft]; exact List.mem_map.2 ⟨m, hm, rfl⟩
    obtain ⟨k, x, hkx, e1, e2⟩ := encs_mem hm2
    subst e2
    have hme : m ∈ es.toList := (List.mem_filter.1 hm).1
    refine ⟨_, _, _, hrun, (by rcases hw1 with rfl | rfl <;> rfl), ?_, ?_, ?_, .inr ⟨k, _, hkx, by rw [e1], ⟨es, clock, since, seen.push m.born, clock, rfl, hes, hst, rfl, hold, ?_, ?_, ?_⟩⟩⟩
    · rcases hw1 with rfl | rfl <;> rfl
    · rcases hw1 with rfl | rfl <;> rfl
    · rcases hw1 with rfl | rfl <;> rfl
    · exact ⟨hsc.2, hsc.2⟩
    · have hkn : ((es.toList.filter fun x => !seen.contains x.born).map (·.key)).Nodup := hst.2.2.sublist (List.filter_sublist.map _)
      rw [← ents_del hleft hkn, List.filter_filter]
      congr 1
      apply List.filter_congr
      intro y hy
      have hiff : (y.born = m.born) ↔ (y.key = enc k) := by
        constructor
        · intro q
          have : y = m := by
            have hnd := hst.2.1
            exact nodup_inj hnd hy hme q
          rw [this, e1]
        · intro q
          have hnd := hst.2.2
          have : y = m := nodup_inj hnd hy hme (by rw [q, e1])
          rw [this]
      rw [Bool.eq_iff_iff]
      simp only [Array.contains_push, Bool.not_or, Bool.and_eq_true, Bool.not_eq_true', decide_eq_false_iff_not]
      rw [← hiff]
      simp [and_comm]
    · intro k' v' hq
      cases hq
      exact ⟨rfl, m, hme, seen, rfl, e1.symm, rfl⟩
theorem opE_next (hI : IterO mb kvs left cur ob io) (hx : ev l x = some (.pointer (some ⟨r, 0, none⟩))) (hp : Pick As [(r, io)] F) (hA : Has e F A) (hb : (mb, ob) ∈ A) :
    OpE P e n ⟨dst, .next x false, ty, pos, after, g⟩ l As (fun v Bs => ∃ io', ((left = [] ∧ v = .tuple #[.bool false] ∧ io' = io) ∨ ∃ k x, (k, x) ∈ left ∧ v = .tuple #[.bool true, enc k, x] ∧ IterO mb kvs (del k left) (some (k, x)) ob io') ∧ Bs = [(r, io')] :: F) := fun a w h => by
  have ho := h.owns.pick hp
  have hr : w.heap[r]? = some io := ho.own.get r io (by simp)
  obtain ⟨v, io', w', hrun, hh, h1, h2, h3, h4⟩ := run_next_iter (P := P) (ty := ty) hI hr (ho.tail.has hA hb)
  refine ⟨v, w', _, ?_, ⟨io', h4, rfl⟩, Owns.put ho ?_ ?_ h1 h2 h3⟩
  · simp only [execOp, h.eval hx, Sem.run_bind, hrun]; rfl
  · have hlt : r < w.heap.size := (Array.getElem?_eq_some_iff.1 hr).1
    rw [hh]; simp [hlt]
  · intro c hc; rw [hh, Array.getElem?_setIfInBounds, if_neg (fun q => hc q.symm)]
theorem opV_entry {v : Value} (hI : IterO mb kvs left (some (k, v)) ob io) (hx : ev l x = some (.pointer (some ⟨r, 0, none⟩))) (hR : Has e As [(r, io)]) (hA : Has e As A) (hb : (mb, ob) ∈ A) :
    OpV P e n ⟨dst, .entry x, ty, pos, after, g⟩ l As (.tuple #[enc k, v]) := fun a w h => by
  have hr := h.owns.has hR (List.mem_singleton.2 rfl)
  have hb' := h.owns.has hA hb
  obtain ⟨es, clock, since, seen, c, rfl, hes, hst, rfl, hold, hsc, hleft, hcur⟩ := hI
  obtain ⟨rfl, m, hm, seen', rfl, e1, e2⟩ := hcur k v rfl
  have h1 := run_entry_at (P := P) w r mb since seen' es c m hr hb' hm hst.2.1
  rw [e1, e2] at h1
  simp only [execOp, h.eval hx, Sem.run_bind, h1]; rfl
/-- An entry goes while the range stands. -/
theorem opE_deleteR (ht : mapInfo P t = some (MKey.desc κ, z)) {t' : TypeId} (hx : ev l x = some (.map (some mb))) (hy : ev l y = some (enc k)) (hp : Pick As [(mb, ob)] F) (hI : IterO mb kvs left cur ob io) :
    OpE P e n ⟨dst, .call ⟨.builtin .delete, #[x, y], #[t, t']⟩, ty, pos, after, g⟩ l As (fun _ Bs => ∃ ob', IterO mb (del k kvs) (del k left) none ob' io ∧ Bs = [(mb, ob')] :: F) := fun a w h => by
  obtain ⟨K, E, hu, hd, hz⟩ := mapInfo_spec ht
  obtain ⟨es, clock, since, seen, c, rfl, hes, hst, rfl, hold, hsc, hleft, _⟩ := hI
  have hb := (h.owns.pick hp).own.get mb _ (List.mem_append.2 (.inr (List.mem_append.2 (.inl (List.mem_singleton.2 rfl)))))
  have h1 : (getObj mb).run P w = .ok (.map es clock) w := by simp [getObj, Sem.run, hb]
  have h2 := fun em => run_checkKey (P := P) (w := w) (k := enc k) hd (isKey k) em 9999
  have hkn : ((es.toList.filter fun x => !seen.contains x.born).map (·.key)).Nodup := hst.2.2.sublist (List.filter_sublist.map _)
  have key : ∃ es' : Array MapEntry, (Builtin.delete_ #[t, t'] ty #[.map (some mb), enc k]).run P w = .ok (.tuple #[]) { w with heap := w.heap.setIfInBounds mb (.map es' clock) } ∧ IterO mb (del k kvs) (del k left) none (.map es' clock) (.mapIter (some mb) since seen c) := by
    rcases find_lkp k es.toList kvs 0 hes with ⟨a1, a2, a3, _, a5⟩ | ⟨j, m, a1, _, a3, a4, _, a6⟩
    · have h3 := run_findKey (P := P) (w := w) hd a1
      refine ⟨es, ?_, es, clock, since, seen, c, rfl, by rw [a5, hes], hst, rfl, hold, hsc, ?_, fun _ _ h => by cases h⟩
      · simp only [Builtin.delete_, List.getElem?_toArray, List.getElem?_cons_zero, List.getElem?_cons_succ, Sem.run_bind, run_underlying hu, Result.andThen_ok, h1, h2, h3]
        simp [setObj, Sem.run, hb]
      · rw [← ents_del hleft hkn]
        congr 1
        symm
        exact List.filter_eq_self.2 fun x hx => by simp [a3 x (List.mem_filter.1 hx).1]
    · have h3 := run_findKey (P := P) (w := w) hd a1
      simp only [Nat.zero_add] at h3
      have hj : j < es.size := by
        have := (List.getElem?_eq_some_iff.1 a3).1
        simpa using this
      have e1 : (es.eraseIdxIfInBounds j).toList = es.toList.eraseIdx j := by simp [Array.eraseIdxIfInBounds, hj]
      have e2 := erase_filter a3 hst.2.2
      rw [a4] at e2
      refine ⟨es.eraseIdxIfInBounds j, ?_, _, clock, since, seen, c, rfl, ?_, stamped_erase hst j, rfl, ?_, hsc, ?_, fun _ _ h => by cases h⟩
      · simp only [Builtin.delete_, List.getElem?_toArray, List.getElem?_cons_zero, List.getElem?_cons_succ, Sem.run_bind, run_underlying hu, Result.andThen_ok, h1, h2, h3]
        simp [setObj, Sem.run, hb]
      · rw [e1, e2]; exact ents_del hes hst.2.2
      · rw [e1, e2]; intro x hx; exact hold x (List.mem_filter.1 hx).1
      · rw [e1, e2, ← ents_del hleft hkn, List.filter_filter, List.filter_filter]
        congr 1
        apply List.filter_congr
        intro y _
        rw [Bool.and_comm]
  obtain ⟨es', hr, hM'⟩ := key
  refine ⟨.tuple #[], { w with heap := w.heap.setIfInBounds mb (.map es' clock) }, [(mb, .map es' clock)] :: F, ?_, ⟨_, hM', rfl⟩, h.owns.setB hp⟩
  simp only [execOp, resolve, invoke, builtin, Sem.run_bind, Sem.run_pure, Result.andThen_ok, List.map_toArray, List.map_cons, List.map_nil, h.eval hx, h.eval hy, hr]
end
end
end Go.W

namespace Go.W
open Go.RowKit
/-! ### Structs of plain fields are compared -/
inductive PK
  | b
  | i (k : IntKind)
  | s
def pkOf : TypeDesc → Option PK
  | .bool => some .b
  | .int k => some (.i k)
  | .string => some .s
  | _ => none
def flatFs (P : Program) : List Field → Nat → Option (List PK)
  | [], _ => some []
  | f :: fs, o => if f.name ≠ "_" ∧ f.offset = o then match (P.underlying f.type).bind pkOf, flatFs P fs (o + 1) with
    | some k, some ks => some (k :: ks)
    | _, _ => none else none
def flatSt (P : Program) (t : TypeId) : Option (List PK) :=
  match P.underlying t with
  | some (.struct fs) => if P.stoodInHeld t || P.eqGuardType P.depth t then none else flatFs P fs.toList 0
  | _ => none
def fitPK : PK → Value → Bool
  | .b, .bool _ => true
  | .i k, .int k' _ => decide (k' = k)
  | .s, .string _ => true
  | _, _ => false
def fitL : List PK → List Value → Bool
  | [], [] => true
  | k :: ks, v :: vs => fitPK k v && fitL ks vs
  | _, _ => false
def eqv : Value → Value → Bool
  | .bool a, .bool b => a == b
  | .int _ a, .int _ b => a == b
  | .string a, .string b => a.toList == b.toList
  | _, _ => false
def eqvL : List Value → List Value → Bool
  | x :: xs, y :: ys => eqv x y && eqvL xs ys
  | _, _ => true
section
variable {P : Program} {e : Ctx} {n : Nat} {l : List (Nat × Value)} {As : List Hp} {dst : Option Tmp} {ty : TypeId} {pos : String} {after : Array Edge} {g : Option (Nat × Bool)} {x y : Operand} {t u : TypeId}
theorem run_eqPK {f : TypeId} {k : PK} {a b : Value} {w : World} (d : Nat) (hk : (P.underlying f).bind pkOf = some k) (ha : fitPK k a = true) (hb : fitPK k b = true) : (Op.equalIn (d + 1) f a b).run P w = .ok (eqv a b) w := by
  obtain ⟨td, hu, hk⟩ := Option.bind_eq_some_iff.1 hk
  unfold pkOf at hk
  split at hk <;> cases hk
  · cases a <;> simp [fitPK] at ha; cases b <;> simp [fitPK] at hb
    exact run_equalIn_bool' w d f _ _ hu
  · cases a <;> simp [fitPK] at ha
    cases b <;> simp [fitPK] at hb
    subst ha hb
    exact run_equalIn_int w d f _ _ _ _ hu
  · cases a <;> simp [fitPK] at ha; cases b <;> simp [fitPK] at hb
    exact run_equalIn_string w d f _ _ hu
theorem scal_pk {f : TypeId} {k : PK} (hk : (P.underlying f).bind pkOf = some k) : scalarB P f = true := by
  obtain ⟨td, hu, hk⟩ := Option.bind_eq_some_iff.1 hk
  unfold scalarB
  rw [hu]
  cases td <;> first | rfl | cases hk
theorem run_eqFlat (d : Nat) (xs ys : Array Value) (w : World) : ∀ (fs : List Field) (o : Nat) (ks : List PK), flatFs P fs o = some ks → fitL ks (xs.toList.drop o) = true → fitL ks (ys.toList.drop o) = true →
    (Op.eqFields (d + 1) xs ys fs).run P w = .ok (eqvL (xs.toList.drop o) (ys.toList.drop o)) w
  | [], o, ks, h, hx, hy => by
    cases h
    have hx' : xs.toList.drop o = [] := by cases hq : xs.toList.drop o <;> simp [hq, fitL] at hx ⊢
    simp [Op.eqFields, hx', eqvL]
  | f :: fs, o, ks, h, hx, hy => by
    unfold flatFs at h
    split at h <;> try (cases h; done)
    rename_i hf
    obtain ⟨hf1, hf2⟩ := hf
    split at h <;> try (cases h; done)
    rename_i k ks' h1 h2
    cases h
    cases hqx : xs.toList.drop o with
    | nil => rw [hqx] at hx; simp [fitL] at hx
    | cons a as =>
      cases hqy : ys.toList.drop o with
      | nil => rw [hqy] at hy; simp [fitL] at hy
      | cons b bs =>
        rw [hqx] at hx
        rw [hqy] at hy
        simp only [fitL, Bool.and_eq_true] at hx hy
        have ax : xs[o]? = some a := by
          have := congrArg (·[0]?) hqx
          simpa [List.getElem?_drop] using this
        have ay : ys[o]? = some b := by
          have := congrArg (·[0]?) hqy
          simpa [List.getElem?_drop] using this
        have dx : xs.toList.drop (o + 1) = as := by
          have := congrArg (List.drop 1) hqx
          simpa [List.drop_drop] using this
        have dy : ys.toList.drop (o + 1) = bs := by
          have := congrArg (List.drop 1) hqy
          simpa [List.drop_drop] using this
        have ih := run_eqFlat d xs ys w fs (o + 1) ks' h2 (by rw [dx]; exact hx.2) (by rw [dy]; exact hy.2)
        rw [dx, dy] at ih
        have p1 : (part f.type xs f.offset).run P w = .ok a w := by simp [part, run_isAgg_false (scal_pk h1), hf2, ax]
        have p2 : (part f.type ys f.offset).run P w = .ok b w := by simp [part, run_isAgg_false (scal_pk h1), hf2, ay]
        simp only [Op.eqFields, if_pos hf1, Sem.run_bind, p1, p2, Result.andThen_ok, run_eqPK d h1 hx.1 hy.1, Sem.run_ite]
        cases hq : eqv a b
        · simp [eqvL, hq]
        · simp [eqvL, hq, ih]
theorem run_flat {ks : List PK} {xs ys : List Value} {w : World} (ht : flatSt P t = some ks) (hx : fitL ks xs = true) (hy : fitL ks ys = true) : (Op.equalIn 10000 t (.agg xs.toArray) (.agg ys.toArray)).run P w = .ok (eqvL xs ys) w ∧ P.eqGuardType P.depth t = false := by
  unfold flatSt at ht
  split at ht <;> try (cases ht; done)
  rename_i fs hu
  split at ht <;> try (cases ht; done)
  rename_i hg
  simp only [Bool.or_eq_true, not_or, Bool.not_eq_true] at hg
  have hfs : P.fieldsOf t = fs := by simp [Program.fieldsOf, hu]
  refine ⟨?_, hg.2⟩
  rw [run_equalIn_struct w 9999 t _ _ (by rw [hfs]; exact hu) hg.1, hfs]
  have := run_eqFlat (P := P) 9998 xs.toArray ys.toArray w fs.toList 0 ks ht (by simpa using hx) (by simpa using hy)
  simpa using this
theorem opV_steq {ks : List PK} {xs ys : List Value} {r : Bool} (ht : flatSt P t = some ks) (hx : ev l x = some (.agg xs.toArray)) (hy : ev l y = some (.agg ys.toArray)) (fx : fitL ks xs = true) (fy : fitL ks ys = true) (hr : eqvL xs ys = r) :
    OpV P e n ⟨dst, .binOp .eql t x y u, ty, pos, after, g⟩ l As (.bool r) := fun a w h => by
  subst hr
  obtain ⟨h1, h2⟩ := run_flat (w := w) ht fx fy
  simp only [execOp, h.eval hx, h.eval hy, Sem.run_bind, run_eqGuard_agg w _ _ _ _ _ _ h2, Result.andThen_ok, run_eql_struct, h1]
  rfl
theorem opV_stneq {ks : List PK} {xs ys : List Value} {r : Bool} (ht : flatSt P t = some ks) (hx : ev l x = some (.agg xs.toArray)) (hy : ev l y = some (.agg ys.toArray)) (fx : fitL ks xs = true) (fy : fitL ks ys = true) (hr : eqvL xs ys = r) :
    OpV P e n ⟨dst, .binOp .neq t x y u, ty, pos, after, g⟩ l As (.bool (!r)) := fun a w h => by
  subst hr
  obtain ⟨h1, h2⟩ := run_flat (w := w) ht fx fy
  simp only [execOp, h.eval hx, h.eval hy, Sem.run_bind, run_eqGuard_agg w _ _ _ _ _ _ h2, Result.andThen_ok, run_neq_struct, h1]
  rfl
theorem eqv_S {a b : Str} : eqv (S a) (S b) = decide (a = b) := by
  show ((⟨a.toArray⟩ : ByteArray).toList == (⟨b.toArray⟩ : ByteArray).toList) = _
  rw [toList_S, toList_S, Bool.eq_iff_iff]; simp
theorem eqv_int {k : IntKind} {a b : Int} : eqv (.int k a) (.int k b) = decide (a = b) := by
  show (a == b) = _
  rw [Bool.eq_iff_iff]; simp
theorem eqv_bool {a b : Bool} : eqv (.bool a) (.bool b) = decide (a = b) := by
  show (a == b) = _
  rw [Bool.eq_iff_iff]; simp
end
/-! ### copy -/
section
variable {P : Program} {e : Ctx} {n : Nat} {l : List (Nat × Value)} {As F : List Hp} {dst : Option Tmp} {ty : TypeId} {pos : String} {after : Array Edge} {g : Option (Nat × Bool)} {v u : Value} {x y : Operand} {t t' : TypeId}
end
end Go.W
