/- Maps whose values own parts of the heap. -/
import Derived.Test.YteejmoldhbfdnaaGreatDoorCore3
import Derived.Stop.IfaceNil
open Go
namespace Go.W
open Go.RowKit
section
variable {κ : Type} [MKey κ] {α V : Type}
theorem lkp_ins (k : κ) (v : V) : ∀ (m : List (κ × V)) (k' : κ), lkp k' (ins k v m) = if k = k' then some v else lkp k' m
  | [], k' => by simp [ins, lkp]
  | (k1, v1) :: m, k' => by
    simp only [ins]
    by_cases h : k1 = k
    · subst h
      by_cases h2 : k1 = k' <;> simp [lkp, h2]
    · by_cases h2 : k = k'
      · subst h2; simp [lkp, h, lkp_ins k v m]
      · by_cases h3 : k1 = k'
        · subst h3; simp [lkp, h, h2]
        · simp [lkp, h, h2, h3, lkp_ins k v m]
theorem lkp_del_ne {k k' : κ} (hne : k ≠ k') : ∀ (m : List (κ × V)), lkp k' (del k m) = lkp k' m
  | [] => rfl
  | (k1, v1) :: m => by
    simp only [del]
    by_cases h : k1 = k
    · subst h; simp [lkp, hne]
    · by_cases h3 : k1 = k'
      · subst h3; simp [lkp, h]
      · simp [lkp, h, h3, lkp_del_ne hne m]
theorem lkp_none {k : κ} : ∀ {m : List (κ × V)}, lkp k m = none ↔ k ∉ m.map Prod.fst
  | [] => by simp [lkp]
  | (k1, v1) :: m => by
    by_cases h : k1 = k
    · simp [lkp, h]
    · have h' : ¬ k = k1 := fun q => h q.symm
      simp [lkp, h, h', lkp_none (m := m)]
theorem lkp_mem {k : κ} {v : V} : ∀ {m : List (κ × V)}, lkp k m = some v → (k, v) ∈ m
  | [], h => by cases h
  | (k1, v1) :: m, h => by
    by_cases h1 : k1 = k
    · subst h1; simp [lkp] at h; subst h; exact .head _
    · simp [lkp, h1] at h; exact .tail _ (lkp_mem h)
theorem lkp_del_self {k : κ} : ∀ {m : List (κ × V)}, (m.map Prod.fst).Nodup → lkp k (del k m) = none
  | [], _ => rfl
  | (k1, v1) :: m, h => by
    simp only [List.map_cons, List.nodup_cons] at h
    simp only [del]
    by_cases h1 : k1 = k
    · subst h1; simpa using lkp_none.2 h.1
    · simp [lkp, h1, lkp_del_self h.2]
theorem keys_ins_new {k : κ} {v : V} : ∀ {m : List (κ × V)}, lkp k m = none → ins k v m = m ++ [(k, v)]
  | [], _ => rfl
  | (k1, v1) :: m, h => by
    by_cases h1 : k1 = k
    · simp [lkp, h1] at h
    · simp [lkp, h1] at h; simp [ins, h1, keys_ins_new h]
theorem keys_ins_old {k : κ} {v u : V} : ∀ {m : List (κ × V)}, lkp k m = some u → (ins k v m).map Prod.fst = m.map Prod.fst
  | [], h => by cases h
  | (k1, v1) :: m, h => by
    by_cases h1 : k1 = k
    · simp [ins, h1]
    · simp [lkp, h1] at h; simp [ins, h1, keys_ins_old h]
theorem nodup_ins {k : κ} {v : V} {m : List (κ × V)} (h : (m.map Prod.fst).Nodup) : ((ins k v m).map Prod.fst).Nodup := by
  cases hq : lkp k m with
  | none =>
    rw [keys_ins_new hq, List.map_append]
    refine List.nodup_append.2 ⟨h, by simp, ?_⟩
    intro a ha b hb
    simp at hb
    subst hb
    exact fun q => lkp_none.1 hq (q ▸ ha)
  | some u => rw [keys_ins_old hq]; exact h
theorem del_sub (k : κ) : ∀ (m : List (κ × V)), (del k m).Sublist m
  | [] => .slnil
  | (k1, v1) :: m => by
    simp only [del]
    split
    · exact List.sublist_cons_self _ _
    · exact (del_sub k m).cons_cons _
theorem nodup_del {k : κ} {m : List (κ × V)} (h : (m.map Prod.fst).Nodup) : ((del k m).map Prod.fst).Nodup := h.sublist ((del_sub k m).map _)

/-- Each value of a map owns a part, and stands for something. -/
inductive MapH (P : Value → α → Hp → Prop) : List (κ × Value) → List (κ × α) → Hp → Prop
  | nil : MapH P [] [] []
  | cons {k : κ} {v : Value} {a : α} {B A C : Hp} {kvs : List (κ × Value)} {as : List (κ × α)} (h : P v a B) (t : MapH P kvs as A) (hp : C.Perm (B ++ A)) : MapH P ((k, v) :: kvs) ((k, a) :: as) C
variable {P : Value → α → Hp → Prop} {kvs : List (κ × Value)} {as : List (κ × α)} {A B : Hp} {k : κ} {v : Value} {a : α}
theorem MapH.perm {κ₁ α₁ : Type} {P₁ : Value → α₁ → Hp → Prop} {m₁ : List (κ₁ × Value)} {n₁ : List (κ₁ × α₁)} {A B : Hp} (h : MapH P₁ m₁ n₁ A) (hp : B.Perm A) : MapH P₁ m₁ n₁ B := by
  cases h with
  | nil => obtain rfl := List.Perm.eq_nil hp; exact .nil
  | cons h t hp' => exact .cons h t (hp.trans hp')
theorem MapH.keys {κ₁ α₁ : Type} {P₁ : Value → α₁ → Hp → Prop} {m₁ : List (κ₁ × Value)} {n₁ : List (κ₁ × α₁)} {A : Hp} (h : MapH P₁ m₁ n₁ A) : m₁.map Prod.fst = n₁.map Prod.fst := by
  induction h with
  | nil => rfl
  | cons _ _ _ ih => simp [ih]
theorem MapH.none_iff (h : MapH P kvs as A) : lkp k kvs = none ↔ lkp k as = none := by rw [lkp_none, lkp_none, h.keys]
theorem MapH.get (h : MapH P kvs as A) (hk : lkp k kvs = some v) : ∃ a B A', lkp k as = some a ∧ P v a B ∧ A.Perm (B ++ A') ∧
    (∀ v' a' B', P v' a' B' → MapH P (ins k v' kvs) (ins k a' as) (B' ++ A')) ∧ (∀ a' B', P v a' B' → MapH P kvs (ins k a' as) (B' ++ A')) ∧ MapH P (del k kvs) (del k as) A' := by
  induction h with
  | nil => cases hk
  | @cons k1 v1 a1 B1 A1 C1 kvs1 as1 h t hp ih =>
    by_cases h1 : k1 = k
    · subst h1
      simp [lkp] at hk; subst hk
      refine ⟨a1, B1, A1, by simp [lkp], h, hp, ?_, ?_, ?_⟩
      · intro v' a' B' hP'; simp only [ins, if_true]; exact .cons hP' t (.refl _)
      · intro a' B' hP'; simp only [ins, if_true]; exact .cons hP' t (.refl _)
      · simpa [del] using t
    · simp [lkp, h1] at hk
      obtain ⟨a, B, A', e1, hP, hp', k1, k2, k3⟩ := ih hk
      have hperm : ∀ X : Hp, (X ++ (B1 ++ A')).Perm (B1 ++ (X ++ A')) := fun X => by
        rw [← List.append_assoc, ← List.append_assoc]
        exact List.perm_append_comm.append_right _
      refine ⟨a, B, B1 ++ A', by simp [lkp, h1, e1], hP, ?_, ?_, ?_, ?_⟩
      · exact hp.trans ((hp'.append_left B1).trans (hperm B).symm)
      · intro v' a' B' hP'; simp only [ins, h1, if_false]; exact .cons h (k1 v' a' B' hP') (hperm B')
      · intro a' B' hP'; simp only [ins, h1, if_false]; exact .cons h (k2 a' B' hP') (hperm B')
      · simp only [del, h1, if_false]; exact .cons h k3 (.refl _)
theorem MapH.add (h : MapH P kvs as A) (hk : lkp k kvs = none) (hP : P v a B) : MapH P (ins k v kvs) (ins k a as) (B ++ A) := by
  induction h with
  | nil => exact .cons hP .nil (by simp)
  | @cons k1 v1 a1 B1 A1 C1 kvs1 as1 h t hp ih =>
    by_cases h1 : k1 = k
    · simp [lkp, h1] at hk
    · simp [lkp, h1] at hk
      simp only [ins, h1, if_false]
      refine .cons h (ih hk) ((hp.append_left B).trans ?_)
      rw [← List.append_assoc, ← List.append_assoc]
      exact List.perm_append_comm.append_right _
end
section
variable {P : Program} {e : Ctx} {n : Nat} {ops : Array Oper} {Q : Exit → Act → World → Prop} {rest : List Oper} {l : List (Nat × Value)} {As Bs : List Hp}
theorem Cod.heap {c : Code} (hs : ∀ w, Owns e w As → Owns e w Bs) (h : Cod P e n Q c l Bs) : Cod P e n Q c l As := fun a w st => h a w (st.world (hs w st.owns))
theorem Ops.heap (hs : ∀ w, Owns e w As → Owns e w Bs) (h : Ops P e n ops Q rest l Bs) : Ops P e n ops Q rest l As := fun a w st => h a w (st.world (hs w st.owns))
theorem Ex.heap {x : Exit} (hs : ∀ w, Owns e w As → Owns e w Bs) (h : Ex e n Q x l Bs) : Ex e n Q x l As := fun a w st => h a w (st.world (hs w st.owns))
end
theorem Row.rsl3 {E size lo hi mx n : Nat} {v : Value} {xs : List Value} {A : Hp} (h : Row E size v n xs A) (h1 : lo ≤ hi) (h2 : hi ≤ n) (h3 : hi ≤ mx) (h3' : mx ≤ n) : Row E size (W.rsl3 size lo hi mx v) (hi - lo) ((xs.drop (lo * size)).take ((hi - lo) * size)) A := by
  refine ⟨(h.sl.rsl3 h1 h2 h3 h3').1, ?_⟩
  rcases h.2 with ⟨rfl, rfl, hA⟩ | ⟨g, o, cap, cur, rfl, rfl, h4, h5, h6, h7⟩
  · obtain rfl : lo = 0 := by omega
    obtain rfl : hi = 0 := by omega
    obtain rfl : mx = 0 := by omega
    exact .inl ⟨by simp [W.rsl3], rfl, hA⟩
  · refine .inr ?_
    by_cases hc : mx = lo
    · subst hc
      obtain rfl : hi = mx := by omega
      exact ⟨g, o, 0, cur, by simp [W.rsl3], rfl, by omega, by simp [maxLen], by omega, by simp⟩
    · refine ⟨g, o + lo * size, mx - lo, cur, ?_, rfl, by omega, by simp only [maxLen] at *; omega, ?_, ?_⟩
      · simp only [W.rsl3, if_neg hc, Option.map_some, Addr.add]
        split <;> simp_all
      · have : (mx - lo) * size = mx * size - lo * size := Nat.sub_mul ..
        have : mx * size ≤ cap * size := Nat.mul_le_mul_right _ (by omega)
        have : lo * size ≤ mx * size := Nat.mul_le_mul_right _ (by omega)
        omega
      · rw [← h7, List.drop_take, List.take_take, List.drop_drop]
        congr 1
        rw [← Nat.sub_mul]
        exact (Nat.min_eq_left (Nat.mul_le_mul_right _ (by omega))).symm
section
variable {P : Program} {e : Ctx} {n : Nat} {l : List (Nat × Value)} {As : List Hp} {dst : Option Tmp} {ty : TypeId} {pos : String} {after : Array Edge} {g : Option (Nat × Bool)} {v : Value} {x : Operand} {t u tt : TypeId}
theorem opV_ifneq_nil (ht : P.isIface t = true) (hx : ev l x = some .nilIface) : OpV P e n ⟨dst, .binOp .neq t x (.const .nilIface) u, ty, pos, after, g⟩ l As (.bool false) := fun ac w h => by
  have e1 := run_neq_nil_nil_at (P := P) (w := w) t ht
  have e0 : ac.eval (.const .nilIface) = .nilIface := rfl
  simp [execOp, h.eval hx, e0, eqGuard, e1]
theorem opV_ifneq_iface (ht : P.isIface t = true) (hx : ev l x = some (.iface tt v)) : OpV P e n ⟨dst, .binOp .neq t x (.const .nilIface) u, ty, pos, after, g⟩ l As (.bool true) := fun ac w h => by
  have e1 := run_neq_iface_nil (P := P) (w := w) t ht tt v
  have e0 : ac.eval (.const .nilIface) = .nilIface := rfl
  simp [execOp, h.eval hx, e0, eqGuard, e1]
end
theorem Has.up {e : Ctx} {A B : Hp} {F : List Hp} (h : Has e F B) : Has e (A :: F) B := by
  cases h with
  | base => exact .base
  | mem h => exact .mem (.tail _ h)
section
variable {P : Program} {e : Ctx} {n : Nat} {l : List (Nat × Value)} {As F : List Hp} {dst : Option Tmp} {ty : TypeId} {pos : String} {after : Array Edge} {g : Option (Nat × Bool)} {v : Value} {x : Operand} {t : TypeId}
/-- The tail of an owned row is cleared. -/
theorem opE_clear {E size bytes m k : Nat} {z : Value} {xs : List Value} {A : Hp} (ht : slInfo P t = some (E, size, bytes, some z)) (hz : z.cells.size = size) (h0 : 0 < size) (hz1 : ∀ u ∈ z.cells.toList, u.oneCell' = true)
    (hx : ev l x = some (W.rsl size k m v)) (hp : Pick As A F) (hr : Row E size v m xs A) (hk : k ≤ m) :
    OpE P e n ⟨dst, .call ⟨.builtin .clear, #[x], #[t]⟩, ty, pos, after, g⟩ l As (fun _ Bs => ∃ A' ys, Row E size v m ys A' ∧ ys.take (k * size) = xs.take (k * size) ∧ Bs = A' :: F) := fun a w h => by
  obtain ⟨hu, inf, hi, hs, hby, hzz⟩ := slInfo_spec ht
  have hzv : (zeroValue E).run P w = .ok z w := by simp [zeroValue, typeInfo, hi, hzz]
  have key : ∃ w' A' ys, (Builtin.clear_ #[t] ty #[W.rsl size k m v]).run P w = .ok (.tuple #[]) w' ∧ Row E size v m ys A' ∧ ys.take (k * size) = xs.take (k * size) ∧ Owns e w' (A' :: F) := by
    by_cases hkm : m - k = 0
    · obtain ⟨ad, cap, rfl⟩ := hr.isSlice
      refine ⟨w, A, xs, ?_, hr, rfl, h.owns.pick hp⟩
      have e1 : W.rsl size k m (.slice ad m cap) = .slice (if cap = k then ad else ad.map (·.add (k * size))) 0 (cap - k) := by simp [W.rsl, hkm]
      rw [e1]
      cases (if cap = k then ad else ad.map (·.add (k * size))) <;> simp [Builtin.clear_, run_underlying hu]
    · have hlen := hr.1
      have hv : v ≠ undef := by obtain ⟨_, _, rfl⟩ := hr.isSlice; simp [undef]
      have hzl : (Builtin.zeroCells z.cells (m - k)).toList.length = (m - k) * size := by simp [size_zeroCells, hz]
      have hms : (m - k) * size = m * size - k * size := Nat.sub_mul ..
      have hkm2 : k * size ≤ m * size := Nat.mul_le_mul_right _ hk
      have hpos : 0 < (m - k) * size := Nat.mul_pos (by omega) h0
      obtain ⟨b, o, w', A', e1, hrun, hrow, ho⟩ := Row.put (P := P) (k := k * size) (vs := (Builtin.zeroCells z.cells (m - k)).toList) hp hr h.owns hv (by omega) (by omega) (fun u hu => by
        simp only [Builtin.zeroCells, Array.toList_map, List.mem_map] at hu
        obtain ⟨j, _, rfl⟩ := hu
        have : j % z.cells.size < z.cells.size := Nat.mod_lt _ (by omega)
        rw [getElem!_pos z.cells _ this]
        exact hz1 _ (by simp))
      refine ⟨w', A', _, ?_, hrow, ?_, ho⟩
      · rcases hr.2 with ⟨_, h2, _⟩ | ⟨gg, oo, cap, cur, rfl, rfl, h3, _⟩
        · omega
        · have hck : cap ≠ k := by omega
          simp only [elp, Value.pointer.injEq, Option.some.injEq, Addr.mk.injEq, and_true] at e1
          have e2 : W.rsl size k m (.slice (some ⟨gg, oo, none⟩) m cap) = .slice (some ⟨b, o, none⟩) (m - k) (cap - k) := by
            simp only [W.rsl, if_neg hck, Option.map_some, addr_add]
            rw [e1.1, e1.2]
          rw [e2]
          obtain ⟨j, hj⟩ : ∃ j, m - k = j + 1 := ⟨m - k - 1, by omega⟩
          rw [hj] at hrun ⊢
          simp [Builtin.clear_, run_underlying hu, hzv, hrun]
      · rw [putAt_set _ _ _ (by omega)]
        rw [List.append_assoc, List.take_append_of_le_length (by simp; omega), List.take_take, Nat.min_self]
  obtain ⟨w', A', ys, hr', hrow, htk, ho⟩ := key
  refine ⟨.tuple #[], w', _, ?_, ⟨A', ys, hrow, htk, rfl⟩, ho⟩
  simp only [execOp, resolve, invoke, builtin, Sem.run_bind, Sem.run_pure, Result.andThen_ok, List.map_toArray, List.map_cons, List.map_nil, h.eval hx, hr']
end
section
variable {P : Program} {e : Ctx} {n : Nat} {l : List (Nat × Value)} {As F : List Hp} {dst : Option Tmp} {ty : TypeId} {pos : String} {after : Array Edge} {g : Option (Nat × Bool)} {v : Value} {x : Operand} {t : TypeId}
/-- []byte([]byte{..}): the block is marked behind its end. -/
theorem opE_convSelf {E size bytes m c b : Nat} {z : Option Value} {cs : Array Value} (ht : slInfo P t = some (E, size, bytes, z)) (hE : P.underlying E = some (.int .u8)) (hx : ev l x = some (.slice (some ⟨b, 0, none⟩) m c)) (hp : Pick As [(b, .cells cs E)] F) :
    OpE P e n ⟨dst, .convert t t x, ty, pos, after, g⟩ l As (fun v' Bs => v' = .slice (some ⟨b, 0, none⟩) m c ∧ Bs = [(b, .cells cs E (cs.size, cs.size + 1))] :: F) := fun a w h => by
  obtain ⟨hu, _⟩ := slInfo_spec ht
  have ho := h.owns.pick hp
  have hb : w.heap[b]? = some (.cells cs E (0, 0)) := ho.own.get b _ (by simp)
  have hsh : w.shape? b = some (E, cs.size) := by simp [World.shape?, hb]
  have hr : (convert t t (.slice (some ⟨b, 0, none⟩) m c)).run P w = .ok (.slice (some ⟨b, 0, none⟩) m c) (w.freeze ⟨b, cs.size, none⟩ 1) := by
    simp [convert, run_underlying hu, run_underlying hE, markStringish, hsh]
  refine ⟨_, w.freeze ⟨b, cs.size, none⟩ 1, _, ?_, ⟨rfl, rfl⟩, Owns.put ho ?_ ?_ rfl rfl rfl⟩
  · simp only [execOp, h.eval hx, Sem.run_bind, hr]; rfl
  · simp [World.freeze, Array.getElem?_modify, hb]
  · intro c' hc'
    have : ¬ b = c' := fun q => hc' q.symm
    simp [World.freeze, Array.getElem?_modify, this]
end
theorem Owns.rep {e : Ctx} {w : World} {A B C : Hp} {F : List Hp} (h : Owns e w (A :: F)) (p : A.Perm (B ++ C)) : Owns e w (B :: C :: F) :=
  h.perm (by simpa using p.append_right F.flatten)
theorem Owns.unsplit {e : Ctx} {w : World} {A B : Hp} {F : List Hp} (h : Owns e w (A :: B :: F)) : Owns e w ((A ++ B) :: F) := h.joinA
end Go.W
