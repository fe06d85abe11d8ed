/- copy. -/
import Derived.Test.YteejmoldhbfdnaaGreatDoorCore5
import Derived.Laws.Small
open Go
namespace Go.W
open Go.RowKit
section
variable {P : Program} {e : Ctx} {n : Nat} {l : List (Nat × Value)} {As F : List Hp} {dst : Option Tmp} {ty : TypeId} {pos : String} {after : Array Edge} {g : Option (Nat × Bool)} {v u : Value} {x y : Operand} {t t' : TypeId}
theorem opE_copy {E size bytes m k lo : Nat} {z : Option Value} {xs news : List Value} {A : Hp} (ht : slInfo P t = some (E, size, bytes, z)) (h0 : 0 < size) (hx : ev l x = some (W.rsl size lo m v)) (hy : ev l y = some u) (hp : Pick As A F) (hr : Row E size v m xs A) (hs : Src P e As size u k news) (hk : lo + k ≤ m) :
    OpE P e n ⟨dst, .call ⟨.builtin .copy, #[x, y], #[t, t']⟩, ty, pos, after, g⟩ l As (fun v' Bs => v' = .int .i64 (k : Int) ∧ ∃ A', Row E size v m (putAt xs (lo * size) news) A' ∧ Bs = A' :: F) := fun a w h => by
  obtain ⟨hu, i, hi, rfl, rfl, hiz⟩ := slInfo_spec ht
  have e2 : (sizeOf E).run P w = .ok i.size w := by simp [sizeOf, typeInfo, hi]
  have hmin : Nat.min k (m - lo) = k := Nat.min_eq_left (by omega)
  have hc := hs.cells w h.owns
  have hlen := hs.len w
  have hnl := hs.size
  have key : ∃ w' A', (Builtin.copy_ #[t, t'] ty #[W.rsl i.size lo m v, u]).run P w = .ok (.int .i64 (k : Int)) w' ∧ Row E i.size v m (putAt xs (lo * i.size) news) A' ∧ Owns e w' (A' :: F) := by
    obtain ⟨ad, cap, rfl⟩ := hr.isSlice
    by_cases hk0 : k = 0
    · subst hk0
      have hn : news = [] := List.eq_nil_of_length_eq_zero (by simpa using hnl)
      subst hn
      refine ⟨w, A, ?_, by rw [putAt_nil]; exact hr, h.owns.pick hp⟩
      simp only [W.rsl, Builtin.copy_, List.getElem?_toArray, List.getElem?_cons_zero, List.getElem?_cons_succ, Sem.run_bind, Result.andThen_ok, run_underlying hu, hlen, hmin, e2, hc]
      cases (if cap = lo then ad else ad.map (·.add (lo * i.size))) <;> simp [storeCells, goInt]
    · have hpos : 0 < news.length := by rw [hnl]; exact Nat.mul_pos (by omega) h0
      have hms : (lo + k) * i.size ≤ m * i.size := Nat.mul_le_mul_right _ hk
      rw [Nat.add_mul] at hms
      have hxl := hr.1
      obtain ⟨b, o, w', A', e1, hrun, hrow, ho⟩ := Row.put (P := P) (k := lo * i.size) (vs := news) hp hr h.owns (by simp [undef]) hpos (by rw [hxl, hnl]; exact hms) hs.one
      refine ⟨w', A', ?_, hrow, ho⟩
      rcases hr.2 with ⟨h1, h2, _⟩ | ⟨gg, oo, cap', cur, h1, rfl, h3, _⟩
      · omega
      · cases h1
        have hck : cap ≠ lo := by omega
        simp only [elp, Value.pointer.injEq, Option.some.injEq, Addr.mk.injEq, and_true] at e1
        simp only [W.rsl, if_neg hck, Option.map_some, addr_add, e1.1, e1.2, Builtin.copy_, List.getElem?_toArray, List.getElem?_cons_zero, List.getElem?_cons_succ, Sem.run_bind, Sem.run_pure, Result.andThen_ok, run_underlying hu, hlen, hmin, e2, hc, hrun, goInt]
  obtain ⟨w', A', hr', hrow, ho⟩ := key
  refine ⟨.int .i64 (k : Int), w', _, ?_, ⟨rfl, A', hrow, rfl⟩, ho⟩
  simp only [execOp, resolve, invoke, builtin, Sem.run_bind, Sem.run_pure, Result.andThen_ok, List.map_toArray, List.map_cons, List.map_nil, h.eval hx, h.eval hy, hr']
variable {κ : Type} [MKey κ] {kvs : List (κ × Value)} {ob : Obj} {z : Value}
theorem opV_mlen {b : Nat} (ht : mapInfo P t = some (MKey.desc κ, z)) (hx : ev l x = some (.map (some b))) {A : Hp} (hA : Has e As A) (hb : (b, ob) ∈ A) (hM : MapO kvs ob) :
    OpV P e n ⟨dst, .call ⟨.builtin .len, #[x], #[t]⟩, ty, pos, after, g⟩ l As (.int .i64 (kvs.length : Int)) := fun a w h => by
  obtain ⟨K, E, hu, _, _⟩ := mapInfo_spec ht
  obtain ⟨es, clock, rfl, hes, _⟩ := hM
  have hlen : es.size = kvs.length := by
    have := congrArg List.length hes
    simpa using this
  have h1 : (getObj b).run P w = .ok (.map es clock) w := by simp [getObj, Sem.run, h.owns.has hA hb]
  have e1 : (underlying t).run P w = .ok (.map K E) w := by simp [underlying, hu]
  simp only [execOp, resolve, invoke, builtin, h.eval hx, Builtin.len_, Sem.run_bind, Sem.run_pure, Result.andThen_ok, List.map_toArray, List.map_cons, List.map_nil, List.getElem?_toArray, List.getElem?_cons_zero, e1, h1, goInt, hlen]
theorem opV_mlenNil (ht : mapInfo P t = some (MKey.desc κ, z)) (hx : ev l x = some (.map none)) :
    OpV P e n ⟨dst, .call ⟨.builtin .len, #[x], #[t]⟩, ty, pos, after, g⟩ l As (.int .i64 0) := fun a w h => by
  obtain ⟨K, E, hu, _, _⟩ := mapInfo_spec ht
  have e1 : (underlying t).run P w = .ok (.map K E) w := by simp [underlying, hu]
  simp [execOp, resolve, invoke, builtin, h.eval hx, Builtin.len_, e1, goInt]
theorem opV_beql {a b r : Bool} (ht : P.underlying t = some .bool) (hx : ev l x = some (.bool a)) (hy : ev l y = some (.bool b)) (hr : (a == b) = r) :
    OpV P e n ⟨dst, .binOp .eql t x y t', ty, pos, after, g⟩ l As (.bool r) := fun ac w h => by
  subst hr
  have e1 := run_eql_bool (P := P) w t a b ht
  simp [execOp, h.eval hx, h.eval hy, eqGuard, e1]
end
end Go.W
