/- More rules: whole structs, elements that are written, maps. -/
import Derived.Test.YteejmoldhbfdnaaGreatDoorCore2
import Derived.MapKept
import Derived.Maps.RangeRun
import Derived.Laws.Cells
import Derived.WideLaws
import Derived.OwnWalk
open Go
namespace Go.W
open Go.RowKit Go.MapKept
section
variable {P : Program} {e : Ctx} {n : Nat} {ops : Array Oper} {Q : Exit → Act → World → Prop} {rest : List Oper} {l : List (Nat × Value)} {As Bs F : List Hp}
variable {dst : Option Tmp} {d : Tmp} {op : Op} {ty : TypeId} {pos : String} {after : Array Edge} {g : Option (Nat × Bool)} {v u : Value} {x y : Operand} {t : TypeId} {o : Oper}
theorem addr_add (b o i : Nat) : (⟨b, o, none⟩ : Addr).add i = ⟨b, o + i, none⟩ := by unfold Addr.add; split <;> simp_all
theorem opV_pickT {c : Operand} (hc : ev l c = some (.bool true)) (hx : ev l x = some v) : OpV P e n ⟨dst, .pick c x y, ty, pos, after, g⟩ l As v := fun a w h => by
  simp only [execOp, h.eval hc, h.eval hx, asBool, Sem.run_bind, Sem.run_pure, Result.andThen_ok, if_true]
theorem opV_pickF {c : Operand} (hc : ev l c = some (.bool false)) (hy : ev l y = some v) : OpV P e n ⟨dst, .pick c x y, ty, pos, after, g⟩ l As v := fun a w h => by
  simp only [execOp, h.eval hc, h.eval hy, asBool, Sem.run_bind, Sem.run_pure, Result.andThen_ok, Bool.false_eq_true, if_false]
theorem Ex.ret3 {fn : Func} {t s r : Tmp} {v3 : Value} {post : Value → List Hp → Prop} (hr : fn.results = #[.tmp t, .tmp s, .tmp r]) (ht : lk l t = some v) (hs : lk l s = some u) (h3 : lk l r = some v3) (hb : ∀ w, Owns e w As → Owns e w Bs) (h : post (.tuple #[v, u, v3]) Bs) : Ex e n (bodyPost P fn (Ret e post)) .ret l As := fun a w hst => by
  refine ⟨hst.defers, _, ?_, Bs, h, hb w hst.owns⟩
  rw [results_tmp3 hr]; simp [hst.get t v ht, hst.get s u hs, hst.get r v3 h3]
/-- A region that draws and has no effect. -/
theorem Cod.draw0 {opl : List Oper} {id : Nat} (T U : List Nat) (is : List Nat) (hm : P.follows .mixedOrders = true)
    (hp : (Region.noSelect opl.toArray && (is.length == opl.toArray.size) && planOk opl.toArray T U (allDone opl.toArray) (Array.replicate opl.toArray.size false) is && is.all fun i => Nat.blt i opl.length) = true)
    (h : AnyJ P e n opl.toArray Q T U As (allDone opl.toArray) 0 is (pickOps opl is) l As) : Cod P e n Q (.region id opl.toArray true) l As := Cod.draw T U As is hm hp h
/-- A struct's or an array's cells. -/
def aggSz (P : Program) (t : TypeId) : Option Nat :=
  match P.underlying t with
  | some (.struct _) | some (.array _ _) => (P.info? t).map (·.size)
  | _ => none
theorem aggSz_spec {k : Nat} (h : aggSz P t = some k) (w : World) : (isAgg t).run P w = .ok true w ∧ (sizeOf t).run P w = .ok k w := by
  unfold aggSz at h
  split at h
  · rename_i fs hu
    obtain ⟨i, hi, rfl⟩ := Option.map_eq_some_iff.1 h
    simp [isAgg, run_underlying hu, sizeOf, typeInfo, hi]
  · rename_i m E hu
    obtain ⟨i, hi, rfl⟩ := Option.map_eq_some_iff.1 h
    simp [isAgg, run_underlying hu, sizeOf, typeInfo, hi]
  · cases h
/-- Some cells of a block. -/
inductive Cells (e : Ctx) (As : List Hp) (b o : Nat) (vs : List Value) : Prop
  | mk {A : Hp} {cs : List Value} {T : TypeId} {fz : Nat × Nat} (hA : Has e As A) (hb : (b, .cells cs.toArray T fz) ∈ A) (hv : (cs.drop o).take vs.length = vs)
theorem Cells.cell? {b o : Nat} {vs : List Value} (c : Cells e As b o vs) {w : World} (h : Owns e w As) : ∀ j v, vs[j]? = some v → w.cell? ((⟨b, o, none⟩ : Addr).add j) = some v := by
  obtain ⟨hA, hb, hv⟩ := c
  intro j v hj
  rw [addr_add]
  refine h.has_cell hA hb ?_
  rw [← hv, List.getElem?_take] at hj
  split at hj
  · simpa using hj
  · cases hj
theorem opV_loadA {b i k : Nat} {vs : List Value} (ht : aggSz P t = some k) (hx : ev l x = some (.pointer (some ⟨b, i, none⟩))) (hk : vs.length = k) (hc : Cells e As b i vs) :
    OpV P e n ⟨dst, .load t x, ty, pos, after, g⟩ l As (.agg vs.toArray) := fun a w h => by
  subst hk
  obtain ⟨h1, h2⟩ := aggSz_spec ht w
  have h3 := run_loadCells_list (P := P) w ⟨b, i, none⟩ vs (hc.cell? h.owns)
  simp only [execOp, h.eval hx, Sem.run_bind, Instr.loadAt, Instr.sureAddr, Sem.run_pure, Result.andThen_ok, loadVar, h1, if_true, h2, h3]
/-- The cells of a block of its own, all of them. -/
theorem opV_loadW {b k : Nat} {xs : List Value} {T : TypeId} {fz : Nat × Nat} {A : Hp} (ht : aggSz P t = some k) (hx : ev l x = some (.pointer (some ⟨b, 0, none⟩))) (hA : Has e As A) (hb : (b, .cells xs.toArray T fz) ∈ A) (hk : xs.length = k) :
    OpV P e n ⟨dst, .load t x, ty, pos, after, g⟩ l As (.agg xs.toArray) := opV_loadA ht hx hk (.mk hA hb (by simp))
theorem Sl.cells? {A : Hp} {size m k : Nat} {xs vs : List Value} (hs : Sl A size v m xs) (hA : Has e As A) (hv : (xs.drop k).take vs.length = vs) (h0 : 0 < vs.length) : ∃ b o, elp v k = .pointer (some ⟨b, o, none⟩) ∧ ∀ {w : World}, Owns e w As → ∀ j v, vs[j]? = some v → w.cell? ((⟨b, o, none⟩ : Addr).add j) = some v := by
  obtain ⟨hl, ⟨⟨a0, c0, rfl⟩, rfl⟩ | ⟨g, o, cap, cur, T, fz, rfl, h2, h3, h4⟩⟩ := hs
  · simp only [Nat.zero_mul] at hl
    have : xs = [] := List.eq_nil_of_length_eq_zero hl
    subst this; simp at hv; subst hv; simp at h0
  · refine ⟨g, o + k, rfl, fun {w} h j v hj => ?_⟩
    rw [addr_add]
    refine h.has_cell hA h3 ?_
    rw [← hv, List.getElem?_take] at hj
    split at hj
    · rw [← h4, List.getElem?_drop, List.getElem?_take] at hj
      split at hj
      · rw [List.getElem?_drop] at hj
        rw [← Nat.add_assoc] at hj
        simpa using hj
      · cases hj
    · cases hj
theorem opV_loadEA {k k' m size : Nat} {A : Hp} {xs vs : List Value} (ht : aggSz P t = some k) (hx : ev l x = some (elp v k')) (hs : Sl A size v m xs) (hA : Has e As A) (hv : (xs.drop k').take k = vs) (hk : vs.length = k) (h0 : 0 < k) :
    OpV P e n ⟨dst, .load t x, ty, pos, after, g⟩ l As (.agg vs.toArray) := fun a w h => by
  subst hk
  obtain ⟨b, o, e1, hc⟩ := hs.cells? hA hv h0
  rw [e1] at hx
  obtain ⟨h1, h2⟩ := aggSz_spec ht w
  have h3 := run_loadCells_list (P := P) w ⟨b, o, none⟩ vs (hc h.owns)
  simp only [execOp, h.eval hx, Sem.run_bind, Instr.loadAt, Instr.sureAddr, Sem.run_pure, Result.andThen_ok, loadVar, h1, if_true, h2, h3]

/-! ### Structs are written -/
theorem putAt_succ {cs : List Value} {k : Nat} {v : Value} {vs : List Value} (h : k < cs.length) : putAt cs k (v :: vs) = putAt (cs.set k v) (k + 1) vs := by
  induction cs generalizing k with
  | nil => simp at h
  | cons c cs ih =>
    cases k with
    | zero =>
      simp only [putAt, List.set_cons_zero]
      cases vs <;> simp [putAt]
    | succ k =>
      simp only [List.length_cons] at h
      simp only [putAt, List.set_cons_succ]
      rw [ih (by omega)]
      cases vs <;> simp [putAt]
theorem putAt_nil (cs : List Value) (k : Nat) : putAt cs k [] = cs := by cases cs <;> cases k <;> rfl
theorem putAt_drop {k : Nat} {vs : List Value} : ∀ (o : Nat) (cs : List Value), (putAt cs (o + k) vs).drop o = putAt (cs.drop o) k vs
  | 0, cs => by simp
  | o + 1, [] => by cases vs <;> simp [putAt]
  | o + 1, c :: cs => by
    cases vs with
    | nil => simp [putAt_nil]
    | cons v vs =>
      have e1 : o + 1 + k = (o + k) + 1 := by omega
      rw [e1]
      simp only [putAt, List.drop_succ_cons]
      exact putAt_drop o cs
theorem putAt_take : ∀ (cs : List Value) (k : Nat) (vs : List Value) (N : Nat), k + vs.length ≤ N → (putAt cs k vs).take N = putAt (cs.take N) k vs
  | cs, k, [], N, _ => by simp [putAt_nil]
  | [], k, v :: vs, N, _ => by simp [putAt]
  | c :: cs, 0, v :: vs, N, h => by
    obtain ⟨N, rfl⟩ : ∃ M, N = M + 1 := ⟨N - 1, by simp at h; omega⟩
    simp only [putAt, List.take_succ_cons]
    rw [putAt_take cs 0 vs N (by simp at h; omega)]
  | c :: cs, k + 1, v :: vs, N, h => by
    obtain ⟨N, rfl⟩ : ∃ M, N = M + 1 := ⟨N - 1, by simp at h; omega⟩
    simp only [putAt, List.take_succ_cons]
    rw [putAt_take cs k (v :: vs) N (by simp at h ⊢; omega)]
/-- Cells one behind the other are written. -/
theorem run_storeCells : ∀ (vs cs : List Value) (w : World) (b o : Nat) (T : TypeId), w.heap[b]? = some (.cells cs.toArray T (0, 0)) → o + vs.length ≤ cs.length → (∀ u ∈ vs, u.oneCell' = true) → ∀ (i : Nat) (o' : Nat), o' + i = o →
    ∃ w', (storeCells ⟨b, o', none⟩ vs i).run P w = .ok () w' ∧ w'.heap[b]? = some (.cells (putAt cs o vs).toArray T (0, 0)) ∧ (∀ c, c ≠ b → w'.heap[c]? = w.heap[c]?) ∧ w'.os = w.os ∧ w'.tape = w.tape ∧ w'.output = w.output
  | [], cs, w, b, o, T, hb, _, _, i, o', _ => ⟨w, by simp [storeCells], by rw [hb]; cases cs <;> cases o <;> rfl, fun _ _ => rfl, rfl, rfl, rfl⟩
  | v :: vs, cs, w, b, o, T, hb, hl, h1, i, o', ho => by
    simp only [List.length_cons] at hl
    have hcell : w.cell? ⟨b, o, none⟩ = some cs[o] := by simp [World.cell?, hb, List.getElem?_eq_getElem (show o < cs.length by omega)]
    have hfr : w.frozen? ⟨b, o, none⟩ = false := by simp [World.frozen?, hb]
    have hb' : (w.setCell ⟨b, o, none⟩ v).heap[b]? = some (.cells (cs.set o v).toArray T (0, 0)) := by
      simp only [World.setCell, Array.getElem?_modify, if_true, hb]
      simp
    obtain ⟨w', hr, h2, h3, h4, h5, h6⟩ := run_storeCells vs (cs.set o v) (w.setCell ⟨b, o, none⟩ v) b (o + 1) T hb' (by simp; omega) (fun u hu => h1 u (.tail _ hu)) (i + 1) o' (by omega)
    refine ⟨w', ?_, ?_, ?_, h4, h5, h6⟩
    · simp only [storeCells, Sem.run_bind, addr_add, ho, run_store P w _ v .plain (h1 v (.head _)), hcell, hfr, Bool.false_eq_true, if_false, Result.andThen_ok]
      exact hr
    · rw [putAt_succ (by omega)]; exact h2
    · intro c hc; rw [h3 c hc]; exact Below.heap_setCell w _ v c hc
/-- A struct in a block of its own. -/
theorem opS_storeA {b i k : Nat} {xs ys vs : List Value} {T : TypeId} (ht : aggSz P t = some k) (hx : ev l x = some (.pointer (some ⟨b, i, none⟩))) (hy : ev l y = some (.agg vs.toArray)) (hk : vs.length = k) (h1 : ∀ u ∈ vs, u.oneCell' = true)
    (hi : Nat.ble (i + k) xs.length = true) (hu : Upd As b (.cells xs.toArray T (0, 0)) (.cells ys.toArray T (0, 0)) Bs) (hp : putAt xs i vs = ys) :
    OpS P e n ⟨none, .store t x y, ty, pos, after, g⟩ l As Bs := fun a w h => by
  subst hk hp
  obtain ⟨_, h2⟩ := aggSz_spec ht w
  obtain ⟨w', hr, h3, h4, h5, h6, h7⟩ := run_storeCells (P := P) vs xs w b i T (hu.get h.owns) (Nat.le_of_ble_eq_true hi) h1 0 i rfl
  refine ⟨w', ?_, h.owns.upd hu h3 h4 h5 h6 h7⟩
  simp only [execOp, h.eval hx, h.eval hy, Sem.run_bind, Instr.storeAt, Instr.sureAddr, Sem.run_pure, Result.andThen_ok, storeVar, Value.cells, h2]
  simp [hr]
variable (P e n) in
/-- A write whose heap the post tells. -/
def OpSE (o : Oper) (l : List (Nat × Value)) (As : List Hp) (post : List Hp → Prop) : Prop :=
  ∀ a w, St e n l As a w → ∃ w' Bs, (execOp a.eval o).run P w = .ok .skip w' ∧ post Bs ∧ Owns e w' Bs
theorem Ops.stE {post : List Hp → Prop} (hg : wantedL ops l g = some true) (h : OpSE P e n ⟨none, op, ty, pos, after, g⟩ l As post) (k : ∀ Bs, post Bs → Ops P e n ops Q rest l Bs) :
    Ops P e n ops Q (⟨none, op, ty, pos, after, g⟩ :: rest) l As := by
  intro a w hs
  unfold wpList
  rw [if_pos (hs.wanted hg)]
  refine .inl ?_
  obtain ⟨w', Bs, hr, hp, ho⟩ := h a w hs
  unfold Oper.wp
  rw [hr]
  exact k Bs hp _ _ (hs.world ho)
theorem AnyJ.stE {T U : List Nat} {E : Array Bool → Bool} {m : Nat} {As1 : List Hp} {i : Nat} {is : List Nat} {post : List Hp → Prop} (hT : (T.contains i || U.contains i) = false) (hg : wantedL ops l g = some true) (h : OpSE P e n ⟨none, op, ty, pos, after, g⟩ l As post)
    (k : ∀ Bs, post Bs → (mayLead ops T i = true → ∀ w, Owns e w Bs → Owns e w As1) ∧ AnyJ P e n ops Q T U As1 E m is rest l Bs) : AnyJ P e n ops Q T U As1 E m (i :: is) (⟨none, op, ty, pos, after, g⟩ :: rest) l As :=
  AnyJ.one hT hg fun a w hs => by
    obtain ⟨w', Bs, hr, hp, ho⟩ := h a w hs
    unfold Oper.wp
    rw [hr]
    obtain ⟨k1, k2⟩ := k Bs hp
    exact ⟨⟨ho.none, fun hl => k1 hl w' ho⟩, fun listed h1 h2 h3 => k2 listed h1 h2 h3 _ _ (hs.world ho)⟩
/-! A region in which two loud operations may come. -/
variable (P e n ops Q) in
/-- The rest of a region that draws: these are done, so many are left. -/
def AnyX (T U : List Nat) (As1 : List Hp) (listed : Array Bool) (fuel : Nat) (l : List (Nat × Value)) (As : List Hp) : Prop :=
  ∀ a w, St e n l As a w → wpAnyG P ops Q (fun w => Owns e w []) (fun w => Owns e w As1) T U fuel listed a w
section
variable {T U : List Nat} {As1 : List Hp} {listed : Array Bool} {fuel : Nat}
theorem AnyX.go {opl : List Oper} (is : List Nat) (E : Array Bool → Bool) (m : Nat) (hn : Region.noSelect opl.toArray = true) (hp : planOk opl.toArray T U E listed is = true) (hall : (is.all fun i => Nat.blt i opl.length) = true) (hf : m + is.length = fuel)
    (h : AnyJ P e n opl.toArray Q T U As1 E m is (pickOps opl is) l As) : AnyX P e n opl.toArray Q T U As1 listed fuel l As := by
  subst hf
  exact h listed hn hp (pickOps_eq opl is hall)
theorem AnyX.go0 {opl : List Oper} (is : List Nat) (hn : Region.noSelect opl.toArray = true) (hp : planOk opl.toArray T U (allDone opl.toArray) listed is = true) (hall : (is.all fun i => Nat.blt i opl.length) = true) (hf : 0 + is.length = fuel)
    (h : AnyJ P e n opl.toArray Q T U As1 (allDone opl.toArray) 0 is (pickOps opl is) l As) : AnyX P e n opl.toArray Q T U As1 listed fuel l As := AnyX.go is _ 0 hn hp hall hf h
theorem AnyJ.stop {fin : Array Bool} {m : Nat} (h : AnyX P e n ops Q T U As1 fin m l As) : AnyJ P e n ops Q T U As1 (fun x => x == fin) m [] [] l As := by
  intro listed _ hp _ a w hs
  simp only [planOk, beq_iff_eq] at hp
  subst hp
  exact h a w hs
variable (P e n ops Q) in
/-- One of several that may come is done. -/
def StepX (T U : List Nat) (As1 : List Hp) (listed : Array Bool) (fuel i : Nat) (os : List Oper) (l : List (Nat × Value)) (As : List Hp) : Prop :=
  ∀ a w, St e n l As a w → (os.headD default).wp P a w (fun a' w' => (Owns e w' [] ∧ (mayLead ops T i = true → Owns e w' As1)) ∧ wpAnyG P ops Q (fun w => Owns e w []) (fun w => Owns e w As1) T U fuel (listed.setIfInBounds i true) a' w') Q
theorem AnyX.two {opl : List Oper} (i j m : Nat) (hm : m + 1 = fuel) (hr : Region.ready .any opl.toArray listed = [i, j]) (hTi : (T.contains i || U.contains i) = false) (hTj : (T.contains j || U.contains j) = false) (hi : Nat.blt i opl.length = true) (hj : Nat.blt j opl.length = true)
    (wi : wantedL opl.toArray l (opl.getD i default).guard = some true) (wj : wantedL opl.toArray l (opl.getD j default).guard = some true)
    (h1 : StepX P e n opl.toArray Q T U As1 listed m i (pickOps opl [i]) l As) (h2 : StepX P e n opl.toArray Q T U As1 listed m j (pickOps opl [j]) l As) :
    AnyX P e n opl.toArray Q T U As1 listed fuel l As := by
  subst hm
  have hi' : opl.toArray[i]? = some (opl.getD i default) := by
    have := Nat.blt_eq.mp hi
    simp [List.getD_eq_getElem?_getD, this]
  have hj' : opl.toArray[j]? = some (opl.getD j default) := by
    have := Nat.blt_eq.mp hj
    simp [List.getD_eq_getElem?_getD, this]
  intro a w hs
  refine ⟨fun h0 => (by rw [h0] at hr; cases hr), fun k hk => ?_⟩
  rw [hr] at hk
  simp only [List.mem_cons, List.not_mem_nil, or_false] at hk
  rcases hk with rfl | rfl
  · unfold wpOp
    simp only [hi', hs.wanted wi, if_true]
    refine .inl (Oper.wp_mono (fun a' w' hk => ⟨?_, hk.2⟩) (h1 a w hs))
    unfold After
    rw [hTi, if_neg (by simp)]
    exact hk.1
  · unfold wpOp
    simp only [hj', hs.wanted wj, if_true]
    refine .inl (Oper.wp_mono (fun a' w' hk => ⟨?_, hk.2⟩) (h2 a w hs))
    unfold After
    rw [hTj, if_neg (by simp)]
    exact hk.1
/-- The step of one of two, an effect. -/
theorem AnyX.effStep {i : Nat} {post : Value → List Hp → Prop} (h : OpE P e n ⟨some d, op, ty, pos, after, g⟩ l As post) (hd : Nat.blt d n = true)
    (k : ∀ v Bs, post v Bs → (mayLead ops T i = true → ∀ w, Owns e w Bs → Owns e w As1) ∧ AnyX P e n ops Q T U As1 (listed.setIfInBounds i true) fuel ((d, v) :: l) Bs) :
    StepX P e n ops Q T U As1 listed fuel i [⟨some d, op, ty, pos, after, g⟩] l As := fun a w hs => by
  obtain ⟨v, w', Bs, hr, hp, ho⟩ := h a w hs
  rw [List.headD_cons]
  unfold Oper.wp
  rw [hr]
  obtain ⟨k1, k2⟩ := k v Bs hp
  exact ⟨⟨ho.none, fun hl => k1 hl w' ho⟩, k2 _ _ ((hs.world ho).put (d := some d) (fun t ht => by cases ht; exact Nat.blt_eq.mp hd))⟩
theorem AnyX.stEStep {i : Nat} {post : List Hp → Prop} (h : OpSE P e n ⟨none, op, ty, pos, after, g⟩ l As post)
    (k : ∀ Bs, post Bs → (mayLead ops T i = true → ∀ w, Owns e w Bs → Owns e w As1) ∧ AnyX P e n ops Q T U As1 (listed.setIfInBounds i true) fuel l Bs) :
    StepX P e n ops Q T U As1 listed fuel i [⟨none, op, ty, pos, after, g⟩] l As := fun a w hs => by
  obtain ⟨w', Bs, hr, hp, ho⟩ := h a w hs
  rw [List.headD_cons]
  unfold Oper.wp
  rw [hr]
  obtain ⟨k1, k2⟩ := k Bs hp
  exact ⟨⟨ho.none, fun hl => k1 hl w' ho⟩, k2 _ _ (hs.world ho)⟩
theorem Cod.drawX {opl : List Oper} {id : Nat} (T U : List Nat) (As1 : List Hp) (hm : P.follows .mixedOrders = true)
    (h : AnyX P e n opl.toArray Q T U As1 (Array.replicate opl.toArray.size false) opl.toArray.size l As) : Cod P e n Q (.region id opl.toArray true) l As := by
  intro a w hs
  refine wp_region_any hm (wpAny_of_G (S0 := fun w => Owns e w []) (S := fun w => Owns e w As1) (T := T) (U := U) _ _ _ _ ?_)
  exact h a w.drew (hs.world hs.owns.drew)
end
/-- Cells of an owned row are written. -/
theorem Row.put {E size k m : Nat} {A : Hp} {xs vs : List Value} {w : World} (hp : Pick As A F) (hr : Row E size v m xs A) (ho : Owns e w As) (hv : v ≠ undef) (h0 : 0 < vs.length) (hk : k + vs.length ≤ xs.length) (h1 : ∀ u ∈ vs, u.oneCell' = true) :
    ∃ b o w' A', elp v k = .pointer (some ⟨b, o, none⟩) ∧ (storeCells ⟨b, o, none⟩ vs).run P w = .ok () w' ∧ Row E size v m (putAt xs k vs) A' ∧ Owns e w' (A' :: F) := by
  obtain ⟨hl, ⟨rfl, rfl, rfl⟩ | ⟨gg, o, cap, cur, rfl, rfl, h3, h4, h5, h6⟩⟩ := hr
  · have h8 : xs.length = 0 := by simpa using hl
    omega
  · have hm : m * size ≤ cap * size := Nat.mul_le_mul_right _ h3
    have h := ho.pick hp
    obtain ⟨cs⟩ := cur
    have hb : w.heap[gg]? = some (.cells cs.toArray E (0, 0)) := h.own.get gg _ (by simp)
    simp only [List.size_toArray] at h5 h6
    obtain ⟨w', hr, h7, h8, h9, h10, h11⟩ := run_storeCells (P := P) vs cs w gg (o + k) E hb (by omega) h1 0 (o + k) rfl
    refine ⟨gg, o + k, w', _, rfl, hr, ⟨?_, .inr ⟨gg, o, cap, _, rfl, rfl, h3, h4, ?_, ?_⟩⟩, Owns.put h h7 h8 h9 h10 h11⟩
    · rw [putAt_set _ _ _ hk]; simp; omega
    · simp [putAt_set _ _ _ (show o + k + vs.length ≤ cs.length by omega)]; omega
    · rw [putAt_drop, putAt_take _ _ _ _ (by omega), h6]
theorem opS_storeE {k m E size : Nat} {A : Hp} {xs : List Value} (_ht : scalarB P t = true) (hsz : (P.info? t).map (·.size) = some 1) (hx : ev l x = some (elp v k)) (hy : ev l y = some u) (hu : u.oneCell' = true)
    (hp : Pick As A F) (hr : Row E size v m xs A) (hk : k < xs.length) : OpSE P e n ⟨none, .store t x y, ty, pos, after, g⟩ l As (fun Bs => ∃ A', Row E size v m (xs.set k u) A' ∧ Bs = A' :: F) := fun a w h => by
  obtain ⟨b, o, w', A', e1, hr', hrow, ho⟩ := Row.put (P := P) (vs := [u]) (k := k) hp hr h.owns (by obtain ⟨_, _, rfl⟩ := hr.isSlice; simp [undef]) (by simp) (by simp only [List.length_cons, List.length_nil]; omega) (by simpa using hu)
  refine ⟨w', A' :: F, ?_, ⟨A', ?_, rfl⟩, ho⟩
  · rw [e1] at hx
    have hcells : u.cells = #[u] := by cases u <;> first | rfl | (simp [Value.oneCell'] at hu)
    obtain ⟨inf, hinf, hs1⟩ : ∃ inf, P.info? t = some inf ∧ inf.size = 1 := by
      cases hq : P.info? t with
      | none => simp [hq] at hsz
      | some inf => exact ⟨inf, rfl, by simpa [hq] using hsz⟩
    simp only [execOp, h.eval hx, h.eval hy, Sem.run_bind, Instr.storeAt, Instr.sureAddr, Sem.run_pure, Result.andThen_ok, storeVar, hcells, sizeOf, typeInfo, run_program, hinf, hs1]
    simp [hr']
  · rw [putAt_succ hk] at hrow
    cases hq : xs.set k u with
    | nil => rw [hq] at hrow; simpa [putAt] using hrow
    | cons c cs => rw [hq] at hrow; simpa [putAt] using hrow
theorem opS_storeEA {k k' m E size : Nat} {A : Hp} {xs vs : List Value} (ht : aggSz P t = some k') (hx : ev l x = some (elp v k)) (hy : ev l y = some (.agg vs.toArray)) (hv : vs.length = k') (h0 : 0 < k') (h1 : ∀ u ∈ vs, u.oneCell' = true)
    (hp : Pick As A F) (hr : Row E size v m xs A) (hk : k + k' ≤ xs.length) : OpSE P e n ⟨none, .store t x y, ty, pos, after, g⟩ l As (fun Bs => ∃ A', Row E size v m (putAt xs k vs) A' ∧ Bs = A' :: F) := fun a w h => by
  subst hv
  obtain ⟨b, o, w', A', e1, hr', hrow, ho⟩ := Row.put (P := P) (vs := vs) hp hr h.owns (by obtain ⟨_, _, rfl⟩ := hr.isSlice; simp [undef]) h0 hk h1
  refine ⟨w', A' :: F, ?_, ⟨A', hrow, rfl⟩, ho⟩
  rw [e1] at hx
  obtain ⟨_, h2⟩ := aggSz_spec ht w
  simp only [execOp, h.eval hx, h.eval hy, Sem.run_bind, Instr.storeAt, Instr.sureAddr, Sem.run_pure, Result.andThen_ok, storeVar, Value.cells, h2]
  simp [hr']

theorem Src.mono {size k : Nat} {xs : List Value} (hs : Src P e As size u k xs) (hm : ∀ w, Owns e w Bs → Owns e w As) : Src P e Bs size u k xs := by
  obtain ⟨h1, h2, h3, h4⟩ := hs
  exact ⟨h1, fun w h => h2 w (hm w h), h3, h4⟩
/-- An append to nil. -/
theorem opE_appendNil {E size bytes k : Nat} {z : Value} {news : List Value} {t' : TypeId} (ht : slInfo P t = some (E, size, bytes, some z)) (hz : z.cells.size = size) (hn : notInt P t' = true)
    (hx : ev l x = some (.slice none 0 0)) (hy : ev l y = some u) (hs : Src P e As size u k news) (hb : k * bytes ≤ 140737488355328) (hm : k ≤ maxLen) :
    OpE P e n ⟨dst, .call ⟨.builtin .append, #[x, y], #[t, t']⟩, ty, pos, after, g⟩ l As (fun v' Bs => ∃ A', Row E size v' k news A' ∧ Bs = A' :: As) := fun a w h => by
  have h' : ∀ w, Owns e w ([] :: As) → Owns e w As := fun w h => h.tail
  have h2 : Owns e w ([] :: As) := h.owns.sub (by simp)
  obtain ⟨v', w', Bs, hr, ⟨A', hA', rfl⟩, ho⟩ := opE_append (n := n) (dst := dst) (ty := ty) (pos := pos) (after := after) (g := g) (l := l) ht hz hn hx hy .hd (Row.nil E size) (hs.mono h') (by simpa using hb) (by simpa using hm) a w (h.world h2)
  exact ⟨v', w', _, hr, ⟨A', by simpa using hA', rfl⟩, ho⟩
/-! ### Fields of struct values, arrays that are variables -/
def fldV (P : Program) (t f : Nat) : Option (Nat × Option Nat) :=
  match P.underlying t with
  | some (.struct fs) => match fs[f]? with
    | some f => if scalarB P f.type then some (f.offset, none) else (aggSz P f.type).map fun k => (f.offset, some k)
    | none => none
  | _ => none
theorem opV_fieldV {f off : Nat} {vs : List Value} (hf : fldV P t f = some (off, none)) (hx : ev l x = some (.agg vs.toArray)) (hv : lnth vs off = some v) :
    OpV P e n ⟨dst, .field t x f, ty, pos, after, g⟩ l As v := fun a w h => by
  unfold fldV at hf
  split at hf <;> try (cases hf; done)
  rename_i fs hu
  split at hf <;> try (cases hf; done)
  rename_i f' hf'
  split at hf
  · rename_i hsc
    cases hf
    rw [lnth_eq] at hv
    simp [execOp, h.eval hx, Instr.field, run_underlying hu, hf', asAgg, part, run_isAgg_false hsc, hv]
  · obtain ⟨i, _, hi⟩ := Option.map_eq_some_iff.1 hf; cases hi

/-- An array in a block of its own, or a variable's: its elements of one cell each. -/
def arrInfo (P : Program) (t : TypeId) : Option Nat :=
  match P.underlying t with
  | some (.array m E) => match P.info? E with
    | some i => if i.size = 1 then some m else none
    | none => none
  | _ => none
theorem opV_indexArr {m k b i : Nat} {kd : IntKind} (ht : arrInfo P t = some m) (hx : ev l x = some (.pointer (some ⟨b, i, none⟩))) (hy : ev l y = some (.int kd (k : Int))) (hk : k < m) :
    OpV P e n ⟨dst, .indexAddr t x y, ty, pos, after, g⟩ l As (.pointer (some ⟨b, i + k, none⟩)) := fun a w h => by
  unfold arrInfo at ht
  split at ht <;> try (cases ht; done)
  rename_i m' E hu
  split at ht <;> try (cases ht; done)
  rename_i inf hi
  split at ht <;> cases ht
  rename_i hs
  simp only [execOp, h.eval hx, h.eval hy, Sem.run_bind, Instr.indexAt, asIntOf, Sem.run_pure, Result.andThen_ok, run_underlying hu, Instr.sureAddr]
  rw [if_pos ⟨by omega, by omega⟩]
  simp only [sizeOf, typeInfo, Sem.run_bind, run_program, Result.andThen_ok, hi, Sem.run_pure, hs, Int.toNat_natCast, Nat.mul_one, addr_add]
end

/-! ### Maps -/
class MKey (κ : Type) where
  dec : DecidableEq κ
  enc : κ → Value
  desc : TypeDesc
  inj : ∀ a b, enc a = enc b → a = b
  isKey : ∀ a, IsKey desc (enc a)
  bits : ∀ a, Instr.sameBits 10000 (enc a) (enc a) = true
instance {κ : Type} [MKey κ] : DecidableEq κ := MKey.dec
instance : MKey Str where
  dec := inferInstance
  enc := S
  desc := .string
  inj := fun a b h => by simpa [S] using h
  isKey := fun _ => trivial
  bits := fun a => by
    show ((⟨a.toArray⟩ : ByteArray) == ⟨a.toArray⟩) = true
    rw [bytes_beq]
instance : MKey Int where
  dec := inferInstance
  enc := fun a => .int .i64 a
  desc := .int .i64
  inj := fun a b h => by simpa using h
  isKey := fun _ => rfl
  bits := fun a => by show (IntKind.i64 == IntKind.i64 && a == a) = true; simp
section
variable {κ : Type} [MKey κ] {V : Type}
open MKey
def lkp (k : κ) : List (κ × V) → Option V
  | [] => none
  | (k', v) :: r => if k' = k then some v else lkp k r
def ins (k : κ) (v : V) : List (κ × V) → List (κ × V)
  | [] => [(k, v)]
  | (k', v') :: r => if k' = k then (k, v) :: r else (k', v') :: ins k v r
def del (k : κ) : List (κ × V) → List (κ × V)
  | [] => []
  | (k', v') :: r => if k' = k then r else (k', v') :: del k r
/-- A map's block: its entries, in the order in which they stand. -/
def MapO (kvs : List (κ × Value)) (o : Obj) : Prop :=
  ∃ es clock, o = .map es clock ∧ es.toList.map (fun m => (m.key, m.val)) = kvs.map (fun p => (enc p.1, p.2)) ∧ Stamped es clock
theorem find_lkp (k : κ) : ∀ (es : List MapEntry) (kvs : List (κ × Value)) (i : Nat), es.map (fun m => (m.key, m.val)) = kvs.map (fun p => (enc p.1, p.2)) →
    (Instr.findNow (MKey.desc κ) (enc k) es i = some none ∧ lkp k kvs = none ∧ (∀ x ∈ es, x.key ≠ enc k) ∧ (∀ v, ins k v kvs = kvs ++ [(k, v)]) ∧ del k kvs = kvs) ∨
    ∃ j m, Instr.findNow (MKey.desc κ) (enc k) es i = some (some (i + j, m.val)) ∧ lkp k kvs = some m.val ∧ es[j]? = some m ∧ m.key = enc k ∧ (∀ v, ins k v kvs = kvs.set j (k, v)) ∧ del k kvs = kvs.eraseIdx j
  | [], kvs, i, h => by
    have : kvs = [] := by cases kvs <;> simp at h ⊢
    subst this
    exact .inl ⟨rfl, rfl, by simp, fun _ => rfl, rfl⟩
  | m :: es, [], i, h => by simp at h
  | m :: es, (k', v') :: kvs, i, h => by
    simp only [List.map_cons, List.cons.injEq, Prod.mk.injEq] at h
    obtain ⟨⟨h1, h2⟩, h3⟩ := h
    obtain ⟨r, hr, hiff⟩ := sameNow_of_keys (d := MKey.desc κ) (isKey k) (h1 ▸ isKey k')
    by_cases hk : k' = k
    · subst hk
      have : r = true := hiff.2 h1.symm
      subst this
      exact .inr ⟨0, m, by simp [Instr.findNow, hr], by simp [lkp, h2], rfl, h1, fun v => by simp [ins], by simp [del]⟩
    · have hr0 : r = false := by
        cases r with
        | false => rfl
        | true => exact absurd (inj _ _ ((hiff.1 rfl).trans h1)).symm hk
      subst hr0
      rcases find_lkp k es kvs (i + 1) h3 with ⟨a1, a2, a3, a4, a5⟩ | ⟨j, m', a1, a2, a3, a4, a5, a6⟩
      · refine .inl ⟨by simp [Instr.findNow, hr, a1], by simp [lkp, hk, a2], ?_, fun v => by simp [ins, hk, a4], by simp [del, hk, a5]⟩
        intro x hx
        rcases List.mem_cons.1 hx with rfl | hx
        · rw [h1]; exact fun q => hk (inj _ _ q)
        · exact a3 x hx
      · exact .inr ⟨j + 1, m', by simp [Instr.findNow, hr, a1]; omega, by simp [lkp, hk, a2], by simpa using a3, a4, fun v => by simp [ins, hk, a5], by simp [del, hk, a6]⟩
variable {P : Program} {e : Ctx} {n : Nat} {ops : Array Oper} {Q : Exit → Act → World → Prop} {rest : List Oper} {l : List (Nat × Value)} {As Bs F : List Hp}
variable {dst : Option Tmp} {d : Tmp} {op : Op} {ty : TypeId} {pos : String} {after : Array Edge} {g : Option (Nat × Bool)} {v u z : Value} {x y : Operand} {t : TypeId} {kvs : List (κ × Value)} {k : κ} {b : Nat} {ob : Obj}
/-- A map type's key's description and its value's zero. -/
def mapInfo (P : Program) (t : TypeId) : Option (TypeDesc × Value) :=
  match P.underlying t with
  | some (.map K E) => match P.underlying K, P.info? E with
    | some d, some i => i.zero.map fun z => (d, z)
    | _, _ => none
  | _ => none
theorem mapInfo_spec {dd : TypeDesc} (h : mapInfo P t = some (dd, z)) : ∃ K E, P.underlying t = some (.map K E) ∧ P.underlying K = some dd ∧ ∀ w, (zeroValue E).run P w = .ok z w := by
  unfold mapInfo at h
  split at h <;> try (cases h; done)
  rename_i K E hu
  split at h <;> try (cases h; done)
  rename_i d i hd hi
  obtain ⟨z', hz, he⟩ := Option.map_eq_some_iff.1 h
  cases he
  exact ⟨K, E, hu, hd, fun w => by simp [zeroValue, typeInfo, hi, hz]⟩
theorem run_lookup {w : World} (ht : mapInfo P t = some (MKey.desc κ, z)) (hb : w.heap[b]? = some ob) (hM : MapO kvs ob) (ok : Bool) :
    (Instr.lookup t (.map (some b)) (enc k) ok).run P w = .ok (if ok then .tuple #[(lkp k kvs).getD z, .bool (lkp k kvs).isSome] else (lkp k kvs).getD z) w := by
  obtain ⟨K, E, hu, hd, hz⟩ := mapInfo_spec ht
  obtain ⟨es, clock, rfl, hes, hst⟩ := hM
  have h1 : (getObj b).run P w = .ok (.map es clock) w := by simp [getObj, Sem.run, hb]
  have h2 := fun em => run_checkKey (P := P) (w := w) (k := enc k) hd (isKey k) em 9999
  rcases find_lkp k es.toList kvs 0 hes with ⟨a1, a2, _⟩ | ⟨j, m, a1, a2, _⟩
  · have h3 := run_findKey (P := P) (w := w) hd a1
    simp only [Instr.lookup, Sem.run_bind, run_underlying hu, Result.andThen_ok, h1, Sem.run_pure, h2, h3, hz, a2]
    cases ok <;> rfl
  · have h3 := run_findKey (P := P) (w := w) hd a1
    simp only [Instr.lookup, Sem.run_bind, run_underlying hu, Result.andThen_ok, h1, Sem.run_pure, h2, h3, a2]
    cases ok <;> rfl
theorem opV_lookup (ht : mapInfo P t = some (MKey.desc κ, z)) (hx : ev l x = some (.map (some b))) (hy : ev l y = some (enc k)) {A : Hp} (hA : Has e As A) (hb : (b, ob) ∈ A) (hM : MapO kvs ob) :
    OpV P e n ⟨dst, .lookup t x y false, ty, pos, after, g⟩ l As ((lkp k kvs).getD z) := fun a w h => by
  simp only [execOp, h.eval hx, h.eval hy, Sem.run_bind, run_lookup ht (h.owns.has hA hb) hM]; rfl
theorem opV_lookup2 (ht : mapInfo P t = some (MKey.desc κ, z)) (hx : ev l x = some (.map (some b))) (hy : ev l y = some (enc k)) {A : Hp} (hA : Has e As A) (hb : (b, ob) ∈ A) (hM : MapO kvs ob) :
    OpV P e n ⟨dst, .lookup t x y true, ty, pos, after, g⟩ l As (.tuple #[(lkp k kvs).getD z, .bool (lkp k kvs).isSome]) := fun a w h => by
  simp only [execOp, h.eval hx, h.eval hy, Sem.run_bind, run_lookup ht (h.owns.has hA hb) hM]; rfl
theorem MapO.new {ob : Obj} (h : ob = .map #[] 0) : MapO (κ := κ) [] ob := by subst h; exact ⟨#[], 0, rfl, rfl, stamped_empty 0⟩
theorem run_update {w : World} (ht : mapInfo P t = some (MKey.desc κ, z)) (hb : w.heap[b]? = some ob) (hM : MapO kvs ob) (v : Value) :
    ∃ ob', (Instr.mapUpdate t (.map (some b)) (enc k) v).run P w = .ok () { w with heap := w.heap.setIfInBounds b ob' } ∧ MapO (ins k v kvs) ob' := by
  obtain ⟨K, E, hu, hd, hz⟩ := mapInfo_spec ht
  obtain ⟨es, clock, rfl, hes, hst⟩ := hM
  have h1 : (getObj b).run P w = .ok (.map es clock) w := by simp [getObj, Sem.run, hb]
  have h2 := fun em => run_checkKey (P := P) (w := w) (k := enc k) hd (isKey k) em 9999
  rcases find_lkp k es.toList kvs 0 hes with ⟨a1, a2, a3, a4, _⟩ | ⟨j, m, a1, a2, a3, a4, a5, _⟩
  · have h3 := run_findKey (P := P) (w := w) hd a1
    refine ⟨.map (es.push { key := enc k, val := v, born := clock }) (clock + 1), ?_, ⟨_, _, rfl, ?_, stamped_push hst a3⟩⟩
    · simp only [Instr.mapUpdate, Sem.run_bind, run_underlying hu, Result.andThen_ok, h1, h2, h3]
      simp [setObj, Sem.run, hb]
    · rw [a4]; simp [hes]
  · have h3 := run_findKey (P := P) (w := w) hd a1
    simp only [Nat.zero_add] at h3
    have a3' : es[j]? = some m := by simpa using a3
    refine ⟨.map (es.modify j fun m => { m with key := enc k, val := v }) clock, ?_, ⟨_, _, rfl, ?_, ?_⟩⟩
    · simp only [Instr.mapUpdate, Sem.run_bind, run_underlying hu, Result.andThen_ok, h1, h2, h3, a3', Option.map_some, Option.getD_some, a4, Instr.keyThatStays]
      have hbt := MKey.bits k
      simp [setObj, Sem.run, hb, hbt]
    · rw [a5]
      apply List.ext_getElem?
      intro i
      have hi := congrArg (·[i]?) hes
      simp only [List.getElem?_map, Array.getElem?_toList] at hi
      simp only [List.getElem?_map, Array.getElem?_toList, Array.getElem?_modify, List.getElem?_set]
      by_cases hij : j = i
      · subst hij
        simp only [if_true]
        rw [a3'] at hi ⊢
        simp only [Option.map_some] at hi ⊢
        have : j < kvs.length := by
          rcases Nat.lt_or_ge j kvs.length with h | h
          · exact h
          · rw [List.getElem?_eq_none h] at hi; cases hi
        simp [this]
      · simpa [hij] using hi
    · refine stamped_modify hst j _ (fun _ _ => rfl) fun m' _ hm' => ?_
      rw [a3'] at hm'; cases hm'; exact a4.symm
theorem map_eraseIdx' {α β : Type} (f : α → β) : ∀ (l : List α) (j : Nat), (l.eraseIdx j).map f = (l.map f).eraseIdx j
  | [], _ => by simp
  | _ :: _, 0 => by simp
  | _ :: l, j + 1 => by simp [map_eraseIdx' f l j]
theorem Owns.setB {w : World} {ob ob' : Obj} (h : Owns e w As) (hp : Pick As [(b, ob)] F) : Owns e { w with heap := w.heap.setIfInBounds b ob' } ([(b, ob')] :: F) := by
  have h' := h.pick hp
  have hb := h'.own.get b ob (by simp)
  refine Owns.put h' ?_ ?_ rfl rfl rfl
  · have hlt : b < w.heap.size := by
      rcases Nat.lt_or_ge b w.heap.size with h | h
      · exact h
      · rw [Array.getElem?_eq_none h] at hb; cases hb
    simp [hlt]
  · intro c hc; simp only [Array.getElem?_setIfInBounds]; rw [if_neg (fun q => hc q.symm)]
theorem opS_mapUpdate (ht : mapInfo P t = some (MKey.desc κ, z)) {m : Operand} (hm : ev l m = some (.map (some b))) (hx : ev l x = some (enc k)) (hy : ev l y = some v) (hp : Pick As [(b, ob)] F) (hM : MapO kvs ob) :
    OpSE P e n ⟨none, .mapUpdate t m x y, ty, pos, after, g⟩ l As (fun Bs => ∃ ob', MapO (ins k v kvs) ob' ∧ Bs = [(b, ob')] :: F) := fun a w h => by
  obtain ⟨ob', hr, hM'⟩ := run_update (k := k) ht ((h.owns.pick hp).own.get b ob (by simp)) hM v
  exact ⟨_, _, by simp only [execOp, h.eval hm, h.eval hx, h.eval hy, Sem.run_bind, hr]; rfl, ⟨ob', hM', rfl⟩, h.owns.setB hp⟩
theorem opS_insert (ht : mapInfo P t = some (MKey.desc κ, z)) {m : Operand} (hm : ev l m = some (.map (some b))) (hx : ev l x = some (enc k)) (hy : ev l y = some v) (hp : Pick As [(b, ob)] F) (hM : MapO kvs ob) :
    OpSE P e n ⟨none, .insert t m x y, ty, pos, after, g⟩ l As (fun Bs => ∃ ob', MapO (ins k v kvs) ob' ∧ Bs = [(b, ob')] :: F) := fun a w h => by
  obtain ⟨ob', hr, hM'⟩ := run_update (k := k) ht ((h.owns.pick hp).own.get b ob (by simp)) hM v
  exact ⟨_, _, by simp only [execOp, h.eval hm, h.eval hx, h.eval hy, Sem.run_bind, hr]; rfl, ⟨ob', hM', rfl⟩, h.owns.setB hp⟩
theorem opE_delete (ht : mapInfo P t = some (MKey.desc κ, z)) {t' : TypeId} (hx : ev l x = some (.map (some b))) (hy : ev l y = some (enc k)) (hp : Pick As [(b, ob)] F) (hM : MapO kvs ob) :
    OpE P e n ⟨dst, .call ⟨.builtin .delete, #[x, y], #[t, t']⟩, ty, pos, after, g⟩ l As (fun _ Bs => ∃ ob', MapO (del k kvs) ob' ∧ Bs = [(b, ob')] :: F) := fun a w h => by
  obtain ⟨K, E, hu, hd, hz⟩ := mapInfo_spec ht
  obtain ⟨es, clock, rfl, hes, hst⟩ := hM
  have hb := (h.owns.pick hp).own.get b _ (List.mem_append.2 (.inr (List.mem_append.2 (.inl (List.mem_singleton.2 rfl)))))
  have h1 : (getObj b).run P w = .ok (.map es clock) w := by simp [getObj, Sem.run, hb]
  have h2 := fun em => run_checkKey (P := P) (w := w) (k := enc k) hd (isKey k) em 9999
  have key : ∃ es', (Builtin.delete_ #[t, t'] ty #[.map (some b), enc k]).run P w = .ok (.tuple #[]) { w with heap := w.heap.setIfInBounds b (.map es' clock) } ∧ MapO (del k kvs) (.map es' clock) := by
    rcases find_lkp k es.toList kvs 0 hes with ⟨a1, _, _, _, a5⟩ | ⟨j, m, a1, _, a3, _, _, a6⟩
    · have h3 := run_findKey (P := P) (w := w) hd a1
      refine ⟨es, ?_, ⟨es, clock, rfl, by rw [a5, hes], hst⟩⟩
      simp only [Builtin.delete_, List.getElem?_toArray, List.getElem?_cons_zero, List.getElem?_cons_succ, Sem.run_bind, run_underlying hu, Result.andThen_ok, h1, h2, h3]
      simp [setObj, Sem.run, hb]
    · have h3 := run_findKey (P := P) (w := w) hd a1
      simp only [Nat.zero_add] at h3
      refine ⟨es.eraseIdxIfInBounds j, ?_, ⟨_, clock, rfl, ?_, stamped_erase hst j⟩⟩
      · simp only [Builtin.delete_, List.getElem?_toArray, List.getElem?_cons_zero, List.getElem?_cons_succ, Sem.run_bind, run_underlying hu, Result.andThen_ok, h1, h2, h3]
        simp [setObj, Sem.run, hb]
      · rw [a6]
        have hj : j < es.size := by
          have := (List.getElem?_eq_some_iff.1 a3).1
          simpa using this
        have e1 : (es.eraseIdxIfInBounds j).toList = es.toList.eraseIdx j := by simp [Array.eraseIdxIfInBounds, hj]
        rw [e1, map_eraseIdx', map_eraseIdx', hes]
  obtain ⟨es', hr, hM'⟩ := key
  refine ⟨.tuple #[], { w with heap := w.heap.setIfInBounds b (.map es' clock) }, [(b, .map es' clock)] :: F, ?_, ⟨_, hM', rfl⟩, h.owns.setB hp⟩
  simp only [execOp, resolve, invoke, builtin, Sem.run_bind, Sem.run_pure, Result.andThen_ok, List.map_toArray, List.map_cons, List.map_nil, h.eval hx, h.eval hy, hr]
end
end Go.W
