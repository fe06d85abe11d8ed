/- More rules. -/
import Derived.Test.YteejmoldhbfdnaaGreatDoorCore
import Derived.Laws.Cover3
import Derived.Lib.ConvBytes
import Derived.Laws.IdiomStrings
open Go
namespace Go.W
section
variable {P : Program} {e : Ctx} {n : Nat} {l : List (Nat × Value)} {As : List Hp}
variable {dst : Option Tmp} {ty : TypeId} {pos : String} {after : Array Edge} {g : Option (Nat × Bool)} {v : Value} {x y : Operand} {t u : TypeId}
def ptrT (P : Program) (t : TypeId) : Bool := match P.underlying t with | some (.pointer _) => true | _ => false
theorem run_equal_slnil {E : TypeId} (ht : P.underlying t = some (.slice E)) (a : Option Addr) (m c : Nat) (w : World) : (Op.equal t (.slice a m c) (.slice none 0 0)).run P w = .ok a.isNone w := by
  exact run_equal_slice_nil w t E a m c ht
theorem run_equalIn_ptrnil {E : TypeId} (d : Nat) (ht : P.underlying t = some (.pointer E)) (a : Option Addr) (w : World) : (Op.equalIn (d + 1) t (.pointer a) (.pointer none)).run P w = .ok a.isNone w := by
  cases a <;> simp [Op.equalIn, run_underlying ht]
theorem run_equal_ptrnil {E : TypeId} (ht : P.underlying t = some (.pointer E)) (a : Option Addr) (w : World) : (Op.equal t (.pointer a) (.pointer none)).run P w = .ok a.isNone w := by
  exact run_equalIn_ptrnil 9999 ht a w
theorem opV_slnil {E size bytes : Nat} {z : Option Value} (ht : slInfo P t = some (E, size, bytes, z)) {a : Option Addr} {m c : Nat} (hx : ev l x = some (.slice a m c)) (hy : ev l y = some (.slice none 0 0)) {r : Bool} (hr : a.isNone = r) :
    OpV P e n ⟨dst, .binOp .eql t x y u, ty, pos, after, g⟩ l As (.bool r) := fun ac w h => by
  subst hr
  have e2 := run_equal_slnil (slInfo_spec ht).1 a m c w
  simp [execOp, h.eval hx, h.eval hy, eqGuard, binOp, e2]
theorem opV_ptrnil (ht : ptrT P t = true) {a : Option Addr} (hx : ev l x = some (.pointer a)) (hy : ev l y = some (.pointer none)) {r : Bool} (hr : a.isNone = r) :
    OpV P e n ⟨dst, .binOp .eql t x y u, ty, pos, after, g⟩ l As (.bool r) := fun ac w h => by
  subst hr
  obtain ⟨E, hE⟩ : ∃ E, P.underlying t = some (.pointer E) := by
    unfold ptrT at ht; split at ht
    · exact ⟨_, by assumption⟩
    · cases ht
  have e2 := run_equal_ptrnil hE a w
  simp [execOp, h.eval hx, h.eval hy, eqGuard, binOp, e2]
theorem opV_ptrnnil (ht : ptrT P t = true) {a : Option Addr} (hx : ev l x = some (.pointer a)) (hy : ev l y = some (.pointer none)) {r : Bool} (hr : a.isSome = r) :
    OpV P e n ⟨dst, .binOp .neq t x y u, ty, pos, after, g⟩ l As (.bool r) := fun ac w h => by
  subst hr
  obtain ⟨E, hE⟩ : ∃ E, P.underlying t = some (.pointer E) := by
    unfold ptrT at ht; split at ht
    · exact ⟨_, by assumption⟩
    · cases ht
  have e2 := run_equal_ptrnil hE a w
  simp [execOp, h.eval hx, h.eval hy, eqGuard, binOp, e2]
theorem Owns.split {w : World} {x : Nat × Obj} {R : Hp} {F : List Hp} (h : Owns e w ((x :: R) :: F)) : Owns e w ([x] :: R :: F) := h.sub (by simp)
theorem Owns.join {w : World} {x : Nat × Obj} {R : Hp} {F : List Hp} (h : Owns e w ([x] :: R :: F)) : Owns e w ((x :: R) :: F) := h.sub (by simp)
theorem Owns.splitA {w : World} {A B : Hp} {F : List Hp} (h : Owns e w ((A ++ B) :: F)) : Owns e w (A :: B :: F) := h.sub (by simp)
theorem Owns.joinA {w : World} {A B : Hp} {F : List Hp} (h : Owns e w (A :: B :: F)) : Owns e w ((A ++ B) :: F) := h.sub (by simp)
/-- A contract's heap, told otherwise. -/
theorem Ret.mono {post post' : Value → List Hp → Prop} {en : Ending} {w : World} (h : Ret e post en w) (hp : ∀ v Bs, post v Bs → ∀ w, Owns e w Bs → ∃ Cs, post' v Cs ∧ Owns e w Cs) : Ret e post' en w := by
  cases en with
  | returned v => obtain ⟨Bs, h1, h2⟩ := h; obtain ⟨Cs, h3, h4⟩ := hp v Bs h1 w h2; exact ⟨Cs, h3, h4⟩
  | panicked c => exact h
  | outgrown => exact h
theorem Calls.imp {P : Program} {f : Nat} {args : Array Value} {w : World} {post post' : Value → List Hp → Prop} (h : Calls P f args w (Ret e post)) (hp : ∀ v Bs, post v Bs → ∀ w, Owns e w Bs → ∃ Cs, post' v Cs ∧ Owns e w Cs) : Calls P f args w (Ret e post') :=
  Calls.mono h fun _ _ hR => hR.mono hp
end
end Go.W
namespace Go.W
theorem cellOf {e : Ctx} {As : List Hp} {A : Hp} {b i : Nat} {xs : List Value} {T : TypeId} {fz : Nat × Nat} {v : Value} (hA : Has e As A) (hb : (b, .cells xs.toArray T fz) ∈ A) (hv : lnth xs i = some v) : Cell e As b i v := by
  rw [lnth_eq] at hv
  cases hA with
  | base => exact .base hb (by simpa using hv)
  | mem m =>
    induction As with
    | nil => cases m
    | cons B Bs ih =>
      rcases List.mem_cons.1 m with rfl | m
      · exact .hd hb (by simpa using hv)
      · exact .tl (ih m)
end Go.W

namespace Go.W
section
variable {P : Program} {e : Ctx} {n : Nat} {l : List (Nat × Value)} {As : List Hp}
variable {dst : Option Tmp} {ty : TypeId} {pos : String} {after : Array Edge} {g : Option (Nat × Bool)} {v : Value} {x y : Operand} {t u E : TypeId}
theorem slInfo_elem {size bytes : Nat} {z : Option Value} (h : slInfo P t = some (E, size, bytes, z)) : P.underlying t = some (.slice E) := (slInfo_spec h).1
/-- string(b) -/
theorem opV_tostr {size bytes : Nat} {z : Option Value} {p : Str} {A : Hp} (ht : slInfo P t = some (E, size, bytes, z)) (hu : P.underlying u = some .string) (hE : P.underlying E = some (.int .u8))
    (hx : ev l x = some v) (hs : Sl A 1 v p.length (bcells p)) (hA : Has e As A) : OpV P e n ⟨dst, .convert t u x, ty, pos, after, g⟩ l As (S p) := fun a w h => by
  have key : (convert t u v).run P w = .ok (S p) w := by
    obtain ⟨hl, ⟨⟨a0, c0, rfl⟩, hn⟩ | ⟨gg, o, cap, cur, T, fz, rfl, h2, h3, h4⟩⟩ := hs
    · have : p = [] := List.eq_nil_of_length_eq_zero hn
      subst this
      cases a0 with
      | none =>
        simp [convert, run_underlying (slInfo_elem ht), run_underlying hu, run_underlying hE, Conv.bytesToString]
        rfl
      | some a => exact run_convert_bytes_back w t u E a c0 [] (slInfo_elem ht) hE hu fun j hj => by cases hj
    · refine run_convert_bytes_back w t u E _ cap p (slInfo_elem ht) hE hu fun j hj => ?_
      have hadd : (⟨gg, o, none⟩ : Addr).add j = ⟨gg, o + j, none⟩ := by unfold Addr.add; split <;> simp_all
      rw [hadd]
      refine h.owns.has_cell hA h3 ?_
      have h5 : (bcells p)[j]? = some (.int .u8 (p[j].toNat : Int)) := by simp [bcells, hj]
      rw [← h4, List.getElem?_take] at h5
      split at h5
      · simpa using h5
      · cases h5
  simp only [execOp, h.eval hx, Sem.run_bind, key]; rfl
/-- []byte(s) -/
theorem opE_tobytes {size bytes : Nat} {z : Option Value} {p : Str} (hs : P.underlying t = some .string) (hd : slInfo P u = some (E, size, bytes, z)) (hE : P.underlying E = some (.int .u8))
    (hx : ev l x = some (S p)) : OpE P e n ⟨dst, .convert t u x, ty, pos, after, g⟩ l As (fun v' Bs => ∃ A', Sl A' 1 v' p.length (bcells p) ∧ (∃ b c, v' = .slice (some ⟨b, 0, none⟩) p.length c) ∧ Bs = A' :: As) := fun a w h => by
  have hr := Lib.run_convert_string_bytes (P := P) w t u E ⟨p.toArray⟩ hs (slInfo_elem hd) hE
  rw [size_S] at hr
  refine ⟨.slice (some ⟨w.heap.size, 0, none⟩) p.length (grownCap w p.length 0 E), Lib.bytesWorld w E ⟨p.toArray⟩,
    [(w.heap.size, .cells (Lib.bytesCells w E ⟨p.toArray⟩) E ((Lib.bytesCells w E ⟨p.toArray⟩).size, (Lib.bytesCells w E ⟨p.toArray⟩).size + 1))] :: As, ?_, ⟨_, ?_, ⟨_, _, rfl⟩, rfl⟩, ?_⟩
  · simp only [execOp, h.eval hx, Sem.run_bind, hr]; rfl
  · refine ⟨by simp [bcells], .inr ⟨_, 0, _, _, _, _, rfl, grownCap_ge w _ _ _, List.Mem.head _, ?_⟩⟩
    simp [Lib.bytesCells, bcells]
  · refine h.owns.ext (w' := Lib.bytesWorld w E ⟨p.toArray⟩) ⟨rfl, rfl, rfl, ?_, fun k hk => Lib.bytesWorld_at_old w E _ k hk⟩ ⟨by simp, ?_⟩ ?_
    · rw [Lib.bytesWorld_size]; omega
    · intro b o hm
      simp only [List.mem_singleton, Prod.mk.injEq] at hm
      obtain ⟨rfl, rfl⟩ := hm
      exact Lib.bytesWorld_at_new w E _
    · intro b o hm
      simp only [List.mem_singleton, Prod.mk.injEq] at hm
      omega
end
end Go.W
namespace Go.W
theorem Row.isSlice {E size n : Nat} {v : Value} {xs : List Value} {A : Hp} (h : Row E size v n xs A) : ∃ a cap, v = .slice a n cap := h.sl.isSlice
end Go.W
