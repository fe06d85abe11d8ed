/- Heaps as explicit lists of blocks; the judgements on operations and code over such heaps; one rule an operation. Own library, used by all texts of this seat. -/
import Derived.Tactics
import Derived.Orders
import Derived.OrdersHeld
import Derived.Below
import Derived.WalkArith
import Derived.Deep.LoopGhost
import Derived.Laws.Strings
import Derived.Laws.AppendOwn
namespace Go.W
open Go.RowKit

abbrev Hp := List (Nat × Obj)

/-- The world has these blocks, each once. -/
structure Own (w : World) (L : Hp) : Prop where
  nd : (L.map Prod.fst).Nodup
  get : ∀ b o, (b, o) ∈ L → w.heap[b]? = some o

theorem Own.perm {w : World} {L L' : Hp} (h : Own w L) (p : L.Perm L') : Own w L' :=
  ⟨(p.map _).nodup_iff.1 h.nd, fun b o hm => h.get b o (p.mem_iff.2 hm)⟩
theorem Own.sub {w : World} {L L' : Hp} (h : Own w L) (p : L'.Sublist L) : Own w L' :=
  ⟨h.nd.sublist (p.map _), fun b o hm => h.get b o (p.subset hm)⟩
theorem Own.congr {w w' : World} {L : Hp} (h : Own w L) (e : w'.heap = w.heap) : Own w' L :=
  ⟨h.nd, fun b o hm => by rw [e]; exact h.get b o hm⟩
theorem Own.lt {w : World} {L : Hp} (h : Own w L) {b : Nat} {o : Obj} (hm : (b, o) ∈ L) : b < w.heap.size := by
  have := h.get b o hm
  rcases Nat.lt_or_ge b w.heap.size with h' | h'
  · exact h'
  · simp [Array.getElem?_eq_none h'] at this
theorem Own.alloc {w : World} {L : Hp} (h : Own w L) (o : Obj) : Own (w.alloc o) ((w.heap.size, o) :: L) := by
  refine ⟨?_, ?_⟩
  · simp only [List.map_cons, List.nodup_cons]
    refine ⟨?_, h.nd⟩
    intro hm
    obtain ⟨⟨b, o'⟩, hm, e⟩ := List.mem_map.1 hm
    have := h.lt hm
    simp at e
    omega
  · intro b o' hm
    rcases List.mem_cons.1 hm with e | hm
    · cases e
      show (w.heap.push o)[w.heap.size]? = _
      simp
    · have := h.lt hm
      show (w.heap.push o)[b]? = _
      rw [Array.getElem?_push, if_neg (by omega)]
      exact h.get b o' hm
/-- One block is written. -/
theorem Own.put {w w' : World} {L : Hp} {b : Nat} {o o' : Obj} (h : Own w ((b, o) :: L)) (hb : w'.heap[b]? = some o') (hc : ∀ c, c ≠ b → w'.heap[c]? = w.heap[c]?) :
    Own w' ((b, o') :: L) := by
  have hn := h.nd
  simp only [List.map_cons, List.nodup_cons] at hn
  refine ⟨by simpa using h.nd, fun c x hm => ?_⟩
  rcases List.mem_cons.1 hm with e | hm
  · cases e; exact hb
  · have hne : c ≠ b := fun e => hn.1 (List.mem_map.2 ⟨(c, x), hm, e⟩)
    rw [hc c hne]
    exact h.get c x (List.mem_cons_of_mem _ hm)
/-- What is new lies behind all that was there. -/
theorem Own.ext {w w' : World} {L N : Hp} (h : Own w L) (hs : ∀ b, b < w.heap.size → w'.heap[b]? = w.heap[b]?)
    (hN : Own w' N) (hnew : ∀ b o, (b, o) ∈ N → w.heap.size ≤ b) : Own w' (N ++ L) := by
  refine ⟨?_, fun b o hm => ?_⟩
  · rw [List.map_append]
    refine List.nodup_append.2 ⟨hN.nd, h.nd, ?_⟩
    intro a ha b hb e
    subst e
    obtain ⟨⟨b, o⟩, hm, e⟩ := List.mem_map.1 ha
    obtain ⟨⟨c, o'⟩, hm', e'⟩ := List.mem_map.1 hb
    have h1 := hnew b o hm
    have h2 := h.lt hm'
    simp at e e'
    omega
  · rcases List.mem_append.1 hm with hm | hm
    · exact hN.get b o hm
    · rw [hs b (h.lt hm)]; exact h.get b o hm

/-- What a call stands in: the streams, the tape, and the blocks that were there at the law's start. -/
structure Ctx where
  os : Os
  tape : Nat → Question → Nat
  output : Array (Nat × ByteArray)
  base : Hp

structure Owns (e : Ctx) (w : World) (As : List Hp) : Prop where
  os : w.os = e.os
  tape : w.tape = e.tape
  output : w.output = e.output
  own : Own w (e.base ++ As.flatten)

section
variable {e : Ctx} {w w' : World} {As Bs : List Hp}

theorem Owns.congr (h : Owns e w As) (hh : w'.heap = w.heap) (ho : w'.os = w.os) (ht : w'.tape = w.tape) (hp : w'.output = w.output) : Owns e w' As :=
  ⟨ho.trans h.os, ht.trans h.tape, hp.trans h.output, h.own.congr hh⟩
theorem Owns.drew (h : Owns e w As) : Owns e w.drew As := h.congr rfl rfl rfl rfl
theorem Owns.perm (h : Owns e w As) (p : As.flatten.Perm Bs.flatten) : Owns e w Bs :=
  ⟨h.os, h.tape, h.output, h.own.perm (p.append_left _)⟩
theorem Owns.sub (h : Owns e w As) (p : Bs.flatten.Sublist As.flatten) : Owns e w Bs :=
  ⟨h.os, h.tape, h.output, h.own.sub ((List.Sublist.refl _).append p)⟩
theorem Owns.tail {A : Hp} (h : Owns e w (A :: As)) : Owns e w As := h.sub (by simp)
theorem Owns.alloc (h : Owns e w As) (o : Obj) : Owns e (w.alloc o) ([(w.heap.size, o)] :: As) :=
  ⟨h.os, h.tape, h.output, (h.own.alloc o).perm (by simp only [List.flatten_cons, List.singleton_append]; exact List.perm_middle.symm)⟩
theorem Owns.put {b : Nat} {o o' : Obj} (h : Owns e w ([(b, o)] :: As)) (hb : w'.heap[b]? = some o') (hc : ∀ c, c ≠ b → w'.heap[c]? = w.heap[c]?)
    (ho : w'.os = w.os) (ht : w'.tape = w.tape) (hp : w'.output = w.output) : Owns e w' ([(b, o')] :: As) := by
  have p1 : (e.base ++ ([(b, o)] :: As).flatten).Perm ((b, o) :: (e.base ++ As.flatten)) := by simp [List.perm_middle (a := (b, o)) (l₁ := e.base) (l₂ := As.flatten)] -- (List.perm_middle (a := (b, o)) (l₁ := e.base) (l₂ := As.flatten))
  have p2 : ((b, o') :: (e.base ++ As.flatten)).Perm (e.base ++ ([(b, o')] :: As).flatten) := by simpa using (List.perm_middle (a := (b, o')) (l₁ := e.base) (l₂ := As.flatten)).symm
  exact ⟨ho.trans h.os, ht.trans h.tape, hp.trans h.output, ((h.own.perm p1).put hb hc).perm p2⟩
theorem Owns.ext {N : Hp} (h : Owns e w As) (hB : Below w.heap.size w w') (hN : Own w' N) (hnew : ∀ b o, (b, o) ∈ N → w.heap.size ≤ b) : Owns e w' (N :: As) := by
  refine ⟨hB.os.trans h.os, hB.tape.trans h.tape, hB.output.trans h.output, ?_⟩
  refine (h.own.ext (w' := w') hB.block hN hnew).perm ?_
  simp only [List.flatten_cons]
  rw [← List.append_assoc, ← List.append_assoc]
  exact List.perm_append_comm.append_right _
theorem Owns.below (h : Owns e w As) (hB : Below w.heap.size w w') : Owns e w' As :=
  (h.ext (N := []) hB ⟨by simp, by simp⟩ (by simp)).tail

/-- One part of a list, and those that are left. -/
inductive Pick : List Hp → Hp → List Hp → Prop
  | hd {A : Hp} {F : List Hp} : Pick (A :: F) A F
  | tl {A B : Hp} {As F : List Hp} (h : Pick As A F) : Pick (B :: As) A (B :: F)
theorem Pick.perm {A : Hp} {F : List Hp} (h : Pick As A F) : As.Perm (A :: F) := by
  induction h with
  | hd => exact .refl _
  | tl _ ih => exact (ih.cons _).trans (.swap _ _ _)
theorem Owns.pick {A : Hp} {F : List Hp} (h : Owns e w As) (p : Pick As A F) : Owns e w (A :: F) := h.perm p.perm.flatten

end

/-- A part: the base, or one of the list. -/
inductive Has (e : Ctx) (As : List Hp) : Hp → Prop
  | base : Has e As e.base
  | mem {A : Hp} (h : A ∈ As) : Has e As A
theorem Owns.has {e : Ctx} {w : World} {As : List Hp} {A : Hp} (h : Owns e w As) (m : Has e As A) {b : Nat} {o : Obj} (hb : (b, o) ∈ A) : w.heap[b]? = some o := by
  cases m with
  | base => exact h.own.get b o (by simp [hb])
  | mem m => exact h.own.get b o (by simp only [List.mem_append, List.mem_flatten]; exact .inr ⟨A, m, hb⟩)
theorem Owns.has_cell {e : Ctx} {w : World} {As : List Hp} {A : Hp} (h : Owns e w As) (m : Has e As A) {b : Nat} {cs : Array Value} {T : TypeId} {fz : Nat × Nat} (hb : (b, .cells cs T fz) ∈ A)
    {i : Nat} {v : Value} (hv : cs[i]? = some v) : w.cell? ⟨b, i, none⟩ = some v := by
  simp only [World.cell?, h.has m hb]
  simpa using hv

/-! ### The frame of a call -/

def lk : List (Nat × Value) → Nat → Option Value
  | [], _ => none
  | (k, v) :: l, t => bif Nat.beq k t then some v else lk l t

/-- What an operand is. -/
def ev (l : List (Nat × Value)) : Operand → Option Value
  | .tmp t => lk l t
  | .const v => some v
  | .global g => some (.pointer (some ⟨g, 0, none⟩))
  | .func f => some (.func (.func f) #[] #[])

def evs (l : List (Nat × Value)) : List Operand → Option (List Value)
  | [] => some []
  | x :: xs => match ev l x, evs l xs with
    | some v, some vs => some (v :: vs)
    | _, _ => none

structure St (e : Ctx) (n : Nat) (l : List (Nat × Value)) (As : List Hp) (a : Act) (w : World) : Prop where
  size : a.tmps.size = n
  defers : a.defers = []
  get : ∀ t v, lk l t = some v → a.tmps[t]? = some v
  owns : Owns e w As

section
variable {e : Ctx} {n : Nat} {l : List (Nat × Value)} {As : List Hp} {a : Act} {w : World}

theorem St.eval (h : St e n l As a w) {x : Operand} {v : Value} (hx : ev l x = some v) : a.eval x = v := by
  cases x with
  | tmp t => simp only [ev] at hx; simp [Act.eval, h.get t v hx]
  | const c => simp only [ev, Option.some.injEq] at hx; simp [Act.eval, hx]
  | global g => simp only [ev, Option.some.injEq] at hx; simp [Act.eval, hx]
  | func f => simp only [ev, Option.some.injEq] at hx; simp [Act.eval, hx]
theorem St.evals (h : St e n l As a w) : ∀ {xs : List Operand} {vs : List Value}, evs l xs = some vs → xs.map a.eval = vs := by
  intro xs
  induction xs with
  | nil => intro vs hx; simp only [evs, Option.some.injEq] at hx; simp [← hx]
  | cons x xs ih =>
    intro vs hx
    simp only [evs] at hx
    split at hx
    · rename_i v vs' h1 h2
      simp only [Option.some.injEq] at hx
      subst hx
      simp [h.eval h1, ih h2]
    · cases hx

def putL (l : List (Nat × Value)) (d : Option Tmp) (v : Value) : List (Nat × Value) :=
  match d with
  | some d => (d, v) :: l
  | none => l

theorem St.put (h : St e n l As a w) {d : Option Tmp} {v : Value} (hd : ∀ t, d = some t → t < n) : St e n (putL l d v) As (a.put d v) w := by
  cases d with
  | none => exact h
  | some d =>
    have hd' := hd d rfl
    refine ⟨by simp [Act.put, h.size], by simp [Act.put, h.defers], fun t u ht => ?_, h.owns⟩
    simp only [putL, lk] at ht
    cases hb : Nat.beq d t with
    | true =>
      rw [hb] at ht
      simp only [cond_true, Option.some.injEq] at ht
      have : d = t := Nat.eq_of_beq_eq_true hb
      subst this; subst ht
      simp only [Act.put, Array.getElem?_setIfInBounds, h.size]
      simp [hd']
    | false =>
      rw [hb] at ht
      simp only [cond_false] at ht
      have : d ≠ t := Nat.ne_of_beq_eq_false hb
      simp only [Act.put, Array.getElem?_setIfInBounds, if_neg this]
      exact h.get t u ht
theorem St.world (h : St e n l As a w) {w' : World} {Bs : List Hp} (ho : Owns e w' Bs) : St e n l Bs a w' := ⟨h.size, h.defers, h.get, ho⟩

end

/-- Every slot of the second list stands in the first. -/
def Agrees (l' : List (Nat × Value)) : List (Nat × Value) → Prop
  | [] => True
  | (t, v) :: r => lk l' t = some v ∧ Agrees l' r
end Go.W

namespace Go.W
open Go.RowKit
section
variable (P : Program) (e : Ctx) (n : Nat)

/-- In this state the operation gives this value and leaves the world as it is. -/
def OpV (o : Oper) (l : List (Nat × Value)) (As : List Hp) (v : Value) : Prop :=
  ∀ a w, St e n l As a w → (execOp a.eval o).run P w = .ok (.value v) w

variable (ops : Array Oper) (Q : Exit → Act → World → Prop)
def Ops (rest : List Oper) (l : List (Nat × Value)) (As : List Hp) : Prop := ∀ a w, St e n l As a w → wpList P ops Q rest a w
def Cod (c : Code) (l : List (Nat × Value)) (As : List Hp) : Prop := ∀ a w, St e n l As a w → c.wp P Q a w
/-- What is asked at an exit. -/
def Ex (x : Exit) (l : List (Nat × Value)) (As : List Hp) : Prop := ∀ a w, St e n l As a w → Q x a w
end

section
variable {P : Program} {e : Ctx} {n : Nat} {ops : Array Oper} {Q : Exit → Act → World → Prop} {rest : List Oper} {l : List (Nat × Value)} {As : List Hp}
variable {d : Tmp} {op : Op} {ty : TypeId} {pos : String} {after : Array Edge} {v : Value}

theorem wanted_none {o : Oper} {ops : Array Oper} {t : Array Value} (h : o.guard = none) : Region.wanted o (yielded ops t) = true := by simp [Region.wanted, h]

theorem Ops.val (hv : OpV P e n ⟨some d, op, ty, pos, after, none⟩ l As v) (hd : Nat.blt d n = true) (k : Ops P e n ops Q rest ((d, v) :: l) As) :
    Ops P e n ops Q (⟨some d, op, ty, pos, after, none⟩ :: rest) l As := by
  intro a w h
  unfold wpList
  rw [if_pos (wanted_none rfl)]
  refine .inl ?_
  unfold Oper.wp
  rw [hv a w h]
  exact k _ _ (h.put (d := some d) (fun t ht => by cases ht; exact Nat.blt_eq.mp hd))

/-- What a guard comes to. -/
def wantedL (ops : Array Oper) (l : List (Nat × Value)) (g : Option (Nat × Bool)) : Option Bool :=
  match g with
  | none => some true
  | some (j, want) => match (ops[j]?).bind (·.dst) with
    | some t => match lk l t with
      | some (.bool b) => some (b == want)
      | some _ => some false
      | _ => none
    | none => none
theorem St.wanted {a : Act} {w : World} (h : St e n l As a w) {o : Oper} {b : Bool} (hw : wantedL ops l o.guard = some b) : Region.wanted o (yielded ops a.tmps) = b := by
  unfold wantedL at hw
  unfold Region.wanted
  cases hg : o.guard with
  | none => simp [hg] at hw; simp [hw]
  | some jw =>
    obtain ⟨j, want⟩ := jw
    simp only [hg] at hw ⊢
    cases hd : (ops[j]?).bind (·.dst) with
    | none => simp [hd] at hw
    | some t =>
      simp only [hd] at hw
      cases hl : lk l t with
      | none => simp [hl] at hw
      | some v =>
        simp only [hl] at hw
        cases v <;> simp at hw <;> subst hw <;> simp only [yielded, hd, Option.bind_some, h.get t _ hl] <;> first | rfl | (rename_i b'; cases b' <;> cases want <;> rfl)

theorem Ops.valg {g : Option (Nat × Bool)} (hg : wantedL ops l g = some true) (hv : OpV P e n ⟨some d, op, ty, pos, after, g⟩ l As v) (hd : Nat.blt d n = true) (k : Ops P e n ops Q rest ((d, v) :: l) As) :
    Ops P e n ops Q (⟨some d, op, ty, pos, after, g⟩ :: rest) l As := by
  intro a w h
  unfold wpList
  rw [if_pos (h.wanted hg)]
  refine .inl ?_
  unfold Oper.wp
  rw [hv a w h]
  exact k _ _ (h.put (d := some d) (fun t ht => by cases ht; exact Nat.blt_eq.mp hd))
theorem Ops.skipg {dst : Option Tmp} {g : Option (Nat × Bool)} (hg : wantedL ops l g = some false) (hd : (match dst with | some d => Nat.blt d n | none => true) = true) (k : Ops P e n ops Q rest (putL l dst undef) As) :
    Ops P e n ops Q (⟨dst, op, ty, pos, after, g⟩ :: rest) l As := by
  intro a w h
  unfold wpList
  rw [if_neg (by rw [h.wanted hg]; simp)]
  exact k _ _ (h.put (fun t ht => by subst ht; exact Nat.blt_eq.mp hd))

theorem Ops.nil (k : Ex e n Q .normal l As) : Ops P e n ops Q [] l As := fun a w h => k a w h

/-! ### The code -/
theorem Cod.seq {x y : Code} (h : Cod P e n (Exit.then (y.wp P Q) Q) x l As) : Cod P e n Q (.seq x y) l As := fun a w hs => wp_seq (h a w hs)
theorem Cod.region {id : Nat} {ops : List Oper} (h : Ops P e n ops.toArray Q ops l As) : Cod P e n Q (.region id ops.toArray false) l As := fun a w hs => wp_region_lit (h a w hs)
theorem Cod.skip (h : Ex e n Q .normal l As) : Cod P e n Q .skip l As := fun a w hs => wp_skip (h a w hs)
theorem Cod.ret (h : Ex e n Q .ret l As) : Cod P e n Q .ret l As := fun a w hs => wp_ret (h a w hs)
theorem Cod.exit {id : Nat} (h : Ex e n Q (.exit id) l As) : Cod P e n Q (.exit id) l As := fun a w hs => wp_exit (h a w hs)
theorem Cod.block {id : Nat} {c : Code} (h : Cod P e n (Exit.inBlock id Q) c l As) : Cod P e n Q (.block id c) l As := fun a w hs => wp_block (h a w hs)
theorem Cod.cond {c : Operand} {x y : Code} {b : Bool} (hc : ev l c = some (.bool b)) (ht : b = true → Cod P e n Q x l As) (hf : b = false → Cod P e n Q y l As) :
    Cod P e n Q (.cond c x y) l As := fun a w hs => wp_cond_split (hs.eval hc) (fun h => ht h a w hs) (fun h => hf h a w hs)
theorem Cod.condT {c : Operand} {x y : Code} (hc : ev l c = some (.bool true)) (ht : Cod P e n Q x l As) :
    Cod P e n Q (.cond c x y) l As := fun a w hs => wp_cond_true (hs.eval hc) (ht a w hs)
theorem Cod.condF {c : Operand} {x y : Code} (hc : ev l c = some (.bool false)) (hf : Cod P e n Q y l As) :
    Cod P e n Q (.cond c x y) l As := fun a w hs => wp_cond_false (hs.eval hc) (hf a w hs)

theorem Ex.next {y : Code} (h : Cod P e n Q y l As) : Ex e n (Exit.then (y.wp P Q) Q) .normal l As := fun a w hs => h a w hs
theorem Ex.thenExit {K : Act → World → Prop} {id : Nat} (h : Ex e n Q (.exit id) l As) : Ex e n (Exit.then K Q) (.exit id) l As := fun a w hs => h a w hs
theorem Ex.thenRet {K : Act → World → Prop} (h : Ex e n Q .ret l As) : Ex e n (Exit.then K Q) .ret l As := fun a w hs => h a w hs
theorem Ex.blockNormal {id : Nat} (h : Ex e n Q .normal l As) : Ex e n (Exit.inBlock id Q) .normal l As := fun a w hs => h a w hs
theorem Ex.blockRet {id : Nat} (h : Ex e n Q .ret l As) : Ex e n (Exit.inBlock id Q) .ret l As := fun a w hs => h a w hs
theorem Ex.blockHit {id : Nat} (h : Ex e n Q .normal l As) : Ex e n (Exit.inBlock id Q) (.exit id) l As := fun a w hs => by simp only [Exit.inBlock, if_true]; exact h a w hs
theorem Ex.blockMiss {id id' : Nat} (hne : Nat.beq id' id = false) (h : Ex e n Q (.exit id') l As) : Ex e n (Exit.inBlock id Q) (.exit id') l As := fun a w hs => by
  simp only [Exit.inBlock, if_neg (Nat.ne_of_beq_eq_false hne)]; exact h a w hs

/-- The slots are told anew: only those of the list; the heap's parts are taken in another order, or dropped. -/
theorem St.weaken {a : Act} {w : World} {l' : List (Nat × Value)} {Bs : List Hp} (hs : St e n l As a w) (hl : Agrees l l') (hb : Owns e w As → Owns e w Bs) : St e n l' Bs a w := by
  refine ⟨hs.size, hs.defers, fun t v ht => ?_, hb hs.owns⟩
  induction l' with
  | nil => cases ht
  | cons x r ih =>
    obtain ⟨k, u⟩ := x
    obtain ⟨h1, h2⟩ := hl
    simp only [lk] at ht
    cases hb : Nat.beq k t with
    | true =>
      rw [hb] at ht
      simp only [cond_true, Option.some.injEq] at ht
      have : k = t := Nat.eq_of_beq_eq_true hb
      subst this; subst ht
      exact hs.get _ _ h1
    | false =>
      rw [hb] at ht
      exact ih h2 ht
theorem Cod.weaken {c : Code} {l' : List (Nat × Value)} {Bs : List Hp} (hl : Agrees l l') (hb : ∀ w, Owns e w As → Owns e w Bs) (h : Cod P e n Q c l' Bs) : Cod P e n Q c l As :=
  fun a w hs => h a w (hs.weaken hl (hb w))
theorem Ex.weaken {x : Exit} {l' : List (Nat × Value)} {Bs : List Hp} (hl : Agrees l l') (hb : ∀ w, Owns e w As → Owns e w Bs) (h : Ex e n Q x l' Bs) : Ex e n Q x l As :=
  fun a w hs => h a w (hs.weaken hl (hb w))
theorem Ops.weaken {l' : List (Nat × Value)} {Bs : List Hp} (hl : Agrees l l') (hb : ∀ w, Owns e w As → Owns e w Bs) (h : Ops P e n ops Q rest l' Bs) : Ops P e n ops Q rest l As :=
  fun a w hs => h a w (hs.weaken hl (hb w))

/-- A loop: X is what changes from round to round. -/
theorem Cod.loop {X : Type} {c : Code} (env : X → List (Nat × Value)) (hp : X → List Hp) (inv : X → Prop) (m : X → Nat) (x0 : X) (h0 : inv x0)
    (hl : Agrees l (env x0)) (hb : ∀ w, Owns e w As → Owns e w (hp x0))
    (round : ∀ x, inv x → Cod P e n (Exit.then (fun a w => ∃ x', inv x' ∧ m x' < m x ∧ St e n (env x') (hp x') a w) Q) c (env x) (hp x)) :
    Cod P e n Q (.loop c) l As := by
  intro a w hs
  refine wp_loop_ghost (fun k a w => ∃ x, inv x ∧ m x = k ∧ St e n (env x) (hp x) a w) (m x0) ⟨x0, h0, rfl, hs.weaken hl (hb w)⟩ ?_
  rintro k a w ⟨x, hi, rfl, hx⟩
  refine wp_mono (round x hi a w hx) ?_
  intro ex a' w' hq
  cases ex with
  | normal => obtain ⟨x', h1, h2, h3⟩ := hq; exact ⟨m x', h2, x', h1, rfl, h3⟩
  | _ => exact hq
/-- The round's end. -/
theorem Ex.round {X : Type} {K : Exit → Act → World → Prop} {env : X → List (Nat × Value)} {hp : X → List Hp} {inv : X → Prop} {m : X → Nat} {x : X} (x' : X) (h0 : inv x') (hm : m x' < m x)
    (hl : Agrees l (env x')) (hb : ∀ w, Owns e w As → Owns e w (hp x')) :
    Ex e n (Exit.then (fun a w => ∃ x', inv x' ∧ m x' < m x ∧ St e n (env x') (hp x') a w) K) .normal l As :=
  fun _ w hs => ⟨x', h0, hm, hs.weaken hl (hb w)⟩
end
end Go.W

namespace Go.W
open Go.RowKit
section
variable {P : Program} {e : Ctx} {n : Nat} {ops : Array Oper} {Q : Exit → Act → World → Prop} {rest : List Oper} {l : List (Nat × Value)} {As : List Hp}
variable {dst : Option Tmp} {ty : TypeId} {pos : String} {after : Array Edge} {g : Option (Nat × Bool)} {v : Value} {x y : Operand}

theorem Cod.seqCut {X : Type} {c k : Code} (env : X → List (Nat × Value)) (hp : X → List Hp) (inv : X → Prop)
    (h : Cod P e n (Exit.then (fun a w => ∃ x, inv x ∧ St e n (env x) (hp x) a w) Q) c l As) (hk : ∀ x, inv x → Cod P e n Q k (env x) (hp x)) : Cod P e n Q (.seq c k) l As := by
  intro a w hs
  refine wp_seq (wp_mono (h a w hs) ?_)
  intro ex a' w' hq
  cases ex with
  | normal => obtain ⟨x, hi, hx⟩ := hq; exact hk x hi a' w' hx
  | _ => exact hq
/-- What is asked behind, whatever it is. -/
theorem Ex.toN {N : Act → World → Prop} {K : Exit → Act → World → Prop} {l' : List (Nat × Value)} {Bs : List Hp} (h : ∀ a w, St e n l' Bs a w → N a w) (hl : Agrees l l') (hb : ∀ w, Owns e w As → Owns e w Bs) :
    Ex e n (Exit.then N K) .normal l As := fun a w hs => h a w (hs.weaken hl (hb w))
theorem Ex.cut {X : Type} {K : Exit → Act → World → Prop} {env : X → List (Nat × Value)} {hp : X → List Hp} {inv : X → Prop} (x' : X) (h0 : inv x')
    (hl : Agrees l (env x')) (hb : ∀ w, Owns e w As → Owns e w (hp x')) :
    Ex e n (Exit.then (fun a w => ∃ x', inv x' ∧ St e n (env x') (hp x') a w) K) .normal l As :=
  fun _ w hs => ⟨x', h0, hs.weaken hl (hb w)⟩

theorem opV_move (hx : ev l x = some v) : OpV P e n ⟨dst, .move x, ty, pos, after, g⟩ l As v := fun a w h => by
  simp [execOp, h.eval hx]
theorem opV_assign (hx : ev l x = some v) : OpV P e n ⟨dst, .assign x, ty, pos, after, g⟩ l As v := fun a w h => by
  simp [execOp, h.eval hx]
theorem opV_nil {ad : Addr} (hx : ev l x = some (.pointer (some ad))) : OpV P e n ⟨dst, .nilCheck x, ty, pos, after, g⟩ l As (.pointer (some ad)) := fun a w h => by
  simp [execOp, h.eval hx]

/-- Where a field lies. -/
def fieldOff (P : Program) (s f : Nat) : Option Nat :=
  match P.underlying s with
  | some (.struct fs) => match fs[f]? with
    | some fld => match P.info? fld.type with
      | some i => if i.size = 0 then none else some fld.offset
      | none => none
    | none => none
  | _ => none
theorem run_fieldAt {s f off b o : Nat} (hf : fieldOff P s f = some off) (w : World) :
    (Instr.fieldAt s (.pointer (some ⟨b, o, none⟩)) f).run P w = .ok (.pointer (some ⟨b, o + off, none⟩)) w := by
  unfold fieldOff at hf
  split at hf <;> try (cases hf; done)
  rename_i fs hu
  split at hf <;> try (cases hf; done)
  rename_i fld hfl
  split at hf <;> try (cases hf; done)
  rename_i i hi
  split at hf <;> try (cases hf; done)
  rename_i hs
  cases hf
  have e1 : (underlying s).run P w = .ok (.struct fs) w := by simp [underlying, hu]
  simp only [Instr.fieldAt, Sem.run_bind, e1, Result.andThen_ok, hfl, Instr.sureAddr, Sem.run_pure, fieldPlace, sizeOf, typeInfo, run_program, hi]
  simp only [Sem.run_pure, Result.andThen_ok, hs, if_false]
  simp [Addr.add]
theorem opV_field {s f off b o : Nat} (hf : fieldOff P s f = some off) (hx : ev l x = some (.pointer (some ⟨b, o, none⟩))) :
    OpV P e n ⟨dst, .fieldAddr s x f, ty, pos, after, g⟩ l As (.pointer (some ⟨b, o + off, none⟩)) := fun a w h => by
  simp only [execOp, h.eval hx, Sem.run_bind, run_fieldAt hf]; rfl

/-- A cell of one of the parts. -/
inductive Cell (e : Ctx) : List Hp → Nat → Nat → Value → Prop
  | base {As : List Hp} {b i : Nat} {cs : Array Value} {T : TypeId} {fz : Nat × Nat} {v : Value} (hb : (b, .cells cs T fz) ∈ e.base) (hv : cs[i]? = some v) : Cell e As b i v
  | hd {A : Hp} {F : List Hp} {b i : Nat} {cs : Array Value} {T : TypeId} {fz : Nat × Nat} {v : Value} (hb : (b, .cells cs T fz) ∈ A) (hv : cs[i]? = some v) : Cell e (A :: F) b i v
  | tl {A : Hp} {F : List Hp} {b i : Nat} {v : Value} (h : Cell e F b i v) : Cell e (A :: F) b i v
def lnth : List Value → Nat → Option Value
  | [], _ => none
  | x :: _, 0 => some x
  | _ :: xs, i + 1 => lnth xs i
theorem lnth_eq : ∀ (xs : List Value) (i : Nat), lnth xs i = xs[i]?
  | [], _ => by simp [lnth]
  | _ :: _, 0 => by simp [lnth]
  | _ :: xs, i + 1 => by simp [lnth, lnth_eq xs i]
theorem Cell.one {F : List Hp} {b i : Nat} {xs : List Value} {T : TypeId} {fz : Nat × Nat} (hv : lnth xs i = some v) : Cell e ([(b, .cells xs.toArray T fz)] :: F) b i v :=
  .hd (List.mem_singleton.2 rfl) (by rw [lnth_eq] at hv; simpa using hv)
theorem Cell.cell? {b i : Nat} (c : Cell e As b i v) : ∀ {w : World}, Owns e w As → w.cell? ⟨b, i, none⟩ = some v := by
  induction c with
  | base hb hv => intro w h; exact h.has_cell .base hb hv
  | hd hb hv => intro w h; exact h.has_cell (.mem (by simp)) hb hv
  | tl _ ih => intro w h; exact ih h.tail

def scalarB (P : Program) (t : TypeId) : Bool :=
  match P.underlying t with
  | some (.struct _) => false
  | some (.array _ _) => false
  | some _ => true
  | none => false
theorem run_isAgg_false {t : TypeId} (h : scalarB P t = true) (w : World) : (isAgg t).run P w = .ok false w := by
  unfold scalarB at h
  split at h <;> try (cases h; done)
  rename_i d h1 h2 hu
  have e1 : (underlying t).run P w = .ok d w := by simp [underlying, hu]
  simp only [isAgg, Sem.run_bind, e1, Result.andThen_ok]
  cases d <;> simp_all
theorem run_load_cell {ad : Addr} {w : World} (h : w.cell? ad = some v) : (load ad .plain).run P w = .ok v w := by simp [h]
theorem run_loadAt {t : TypeId} {ad : Addr} {w : World} (ht : scalarB P t = true) (h : w.cell? ad = some v) : (Instr.loadAt t (.pointer (some ad))).run P w = .ok v w := by
  simp only [Instr.loadAt, Instr.sureAddr, Sem.run_bind, Sem.run_pure, Result.andThen_ok, loadVar, run_isAgg_false ht, Bool.false_eq_true, if_false, run_load_cell h]
theorem opV_load {t b i : Nat} (ht : scalarB P t = true) (hx : ev l x = some (.pointer (some ⟨b, i, none⟩))) (hc : Cell e As b i v) :
    OpV P e n ⟨dst, .load t x, ty, pos, after, g⟩ l As v := fun a w h => by
  simp only [execOp, h.eval hx, Sem.run_bind, run_loadAt ht (hc.cell? h.owns)]; rfl

theorem opV_pick {c : Operand} {b : Bool} {u : Value} (hc : ev l c = some (.bool b)) (hx : ev l x = some v) (hy : ev l y = some u) :
    OpV P e n ⟨dst, .pick c x y, ty, pos, after, g⟩ l As (if b then v else u) := fun a w h => by
  simp only [execOp, h.eval hc, h.eval hx, h.eval hy, asBool, Sem.run_bind, Sem.run_pure, Result.andThen_ok]
theorem opV_not {b : Bool} {t : TypeId} (hx : ev l x = some (.bool b)) : OpV P e n ⟨dst, .unOp .not t x, ty, pos, after, g⟩ l As (.bool (!b)) := fun a w h => by
  simp [execOp, h.eval hx, Op.unary]
end
end Go.W

namespace Go.W
open Go.RowKit
abbrev Str := List UInt8
/-- A text. -/
abbrev S (l : Str) : Value := .string ⟨l.toArray⟩
theorem S_data (s : ByteArray) : Value.string s = S s.data.toList := rfl
theorem size_S (l : Str) : (⟨l.toArray⟩ : ByteArray).size = l.length := by simp [ByteArray.size]
theorem toList_S (l : Str) : (⟨l.toArray⟩ : ByteArray).toList = l := by rw [ByteArray.toList_eq]
section
variable {P : Program} {e : Ctx} {n : Nat} {l : List (Nat × Value)} {As : List Hp}
variable {dst : Option Tmp} {ty : TypeId} {pos : String} {after : Array Edge} {g : Option (Nat × Bool)} {v : Value} {x y : Operand} {t u : TypeId} {k : IntKind} {a b : Int}

theorem run_eqGuard_int (op : BinOp) (w : World) : (eqGuard op t x y (.int k a) (.int k b)).run P w = .ok () w := by
  cases op <;> simp [eqGuard]
theorem run_eqGuard_str (op : BinOp) (a b : ByteArray) (w : World) : (eqGuard op t x y (.string a) (.string b)).run P w = .ok () w := by
  cases op <;> simp [eqGuard]

theorem opV_add (hx : ev l x = some (.int k a)) (hy : ev l y = some (.int k b)) : OpV P e n ⟨dst, .binOp .add t x y u, ty, pos, after, g⟩ l As (.int k (k.wrap (a + b))) := fun ac w h => by
  simp [execOp, h.eval hx, h.eval hy, run_eqGuard_int, binOp, Op.intArith]
theorem opV_sub (hx : ev l x = some (.int k a)) (hy : ev l y = some (.int k b)) : OpV P e n ⟨dst, .binOp .sub t x y u, ty, pos, after, g⟩ l As (.int k (k.wrap (a - b))) := fun ac w h => by
  simp [execOp, h.eval hx, h.eval hy, run_eqGuard_int, binOp, Op.intArith]
theorem opV_mul (hx : ev l x = some (.int k a)) (hy : ev l y = some (.int k b)) : OpV P e n ⟨dst, .binOp .mul t x y u, ty, pos, after, g⟩ l As (.int k (k.wrap (a * b))) := fun ac w h => by
  simp [execOp, h.eval hx, h.eval hy, run_eqGuard_int, binOp, Op.intArith]
theorem opV_add64 (hx : ev l x = some (.int .i64 a)) (hy : ev l y = some (.int .i64 b)) (hb : -9223372036854775808 ≤ a + b ∧ a + b ≤ 9223372036854775807) :
    OpV P e n ⟨dst, .binOp .add t x y u, ty, pos, after, g⟩ l As (.int .i64 (a + b)) := fun ac w h => by
  rw [opV_add hx hy ac w h, IntWalk.i64_in _ hb]
theorem opV_sub64 (hx : ev l x = some (.int .i64 a)) (hy : ev l y = some (.int .i64 b)) (hb : -9223372036854775808 ≤ a - b ∧ a - b ≤ 9223372036854775807) :
    OpV P e n ⟨dst, .binOp .sub t x y u, ty, pos, after, g⟩ l As (.int .i64 (a - b)) := fun ac w h => by
  rw [opV_sub hx hy ac w h, IntWalk.i64_in _ hb]
theorem opV_mul64 (hx : ev l x = some (.int .i64 a)) (hy : ev l y = some (.int .i64 b)) (hb : -9223372036854775808 ≤ a * b ∧ a * b ≤ 9223372036854775807) :
    OpV P e n ⟨dst, .binOp .mul t x y u, ty, pos, after, g⟩ l As (.int .i64 (a * b)) := fun ac w h => by
  rw [opV_mul hx hy ac w h, IntWalk.i64_in _ hb]

theorem opV_lss {r : Bool} (hx : ev l x = some (.int k a)) (hy : ev l y = some (.int k b)) (hr : decide (a < b) = r) : OpV P e n ⟨dst, .binOp .lss t x y u, ty, pos, after, g⟩ l As (.bool r) := fun ac w h => by
  subst hr; simp [execOp, h.eval hx, h.eval hy, run_eqGuard_int, binOp, Op.intCmp]
theorem opV_leq {r : Bool} (hx : ev l x = some (.int k a)) (hy : ev l y = some (.int k b)) (hr : decide (a ≤ b) = r) : OpV P e n ⟨dst, .binOp .leq t x y u, ty, pos, after, g⟩ l As (.bool r) := fun ac w h => by
  subst hr; simp [execOp, h.eval hx, h.eval hy, run_eqGuard_int, binOp, Op.intCmp]
theorem opV_gtr {r : Bool} (hx : ev l x = some (.int k a)) (hy : ev l y = some (.int k b)) (hr : decide (b < a) = r) : OpV P e n ⟨dst, .binOp .gtr t x y u, ty, pos, after, g⟩ l As (.bool r) := fun ac w h => by
  subst hr; simp [execOp, h.eval hx, h.eval hy, run_eqGuard_int, binOp, Op.intCmp]
theorem opV_geq {r : Bool} (hx : ev l x = some (.int k a)) (hy : ev l y = some (.int k b)) (hr : decide (b ≤ a) = r) : OpV P e n ⟨dst, .binOp .geq t x y u, ty, pos, after, g⟩ l As (.bool r) := fun ac w h => by
  subst hr; simp [execOp, h.eval hx, h.eval hy, run_eqGuard_int, binOp, Op.intCmp]
theorem opV_eql {r : Bool} (hx : ev l x = some (.int k a)) (hy : ev l y = some (.int k b)) (hr : decide (a = b) = r) : OpV P e n ⟨dst, .binOp .eql t x y u, ty, pos, after, g⟩ l As (.bool r) := fun ac w h => by
  subst hr; simp [execOp, h.eval hx, h.eval hy, run_eqGuard_int, binOp, Op.intCmp]; rfl
theorem opV_neq {r : Bool} (hx : ev l x = some (.int k a)) (hy : ev l y = some (.int k b)) (hr : decide (a ≠ b) = r) : OpV P e n ⟨dst, .binOp .neq t x y u, ty, pos, after, g⟩ l As (.bool r) := fun ac w h => by
  subst hr; simp [execOp, h.eval hx, h.eval hy, run_eqGuard_int, binOp, Op.intCmp]; rw [Bool.eq_iff_iff]; simp
theorem opV_conv (hd : P.underlying u = some (.int k)) {k' : IntKind} (hs : (P.underlying t).isSome = true) (hx : ev l x = some (.int k' a)) : OpV P e n ⟨dst, .convert t u x, ty, pos, after, g⟩ l As (.int k (k.wrap a)) := fun ac w h => by
  obtain ⟨ds, hs⟩ := Option.isSome_iff_exists.1 hs
  simp [execOp, h.eval hx, convert, underlying, hd, hs, Conv.intToInt]

variable {p q : Str}
theorem opV_seql {r : Bool} (hx : ev l x = some (S p)) (hy : ev l y = some (S q)) (hr : decide (p = q) = r) : OpV P e n ⟨dst, .binOp .eql t x y u, ty, pos, after, g⟩ l As (.bool r) := fun ac w h => by
  subst hr
  simp only [execOp, h.eval hx, h.eval hy, Sem.run_bind, run_eqGuard_str, Result.andThen_ok, binOp_string_eql, Sem.run_pure, toList_S]
  congr; rw [Bool.eq_iff_iff]; simp
theorem opV_sneq {r : Bool} (hx : ev l x = some (S p)) (hy : ev l y = some (S q)) (hr : decide (p ≠ q) = r) : OpV P e n ⟨dst, .binOp .neq t x y u, ty, pos, after, g⟩ l As (.bool r) := fun ac w h => by
  subst hr
  simp only [execOp, h.eval hx, h.eval hy, Sem.run_bind, run_eqGuard_str, Result.andThen_ok, binOp_string_neq, Sem.run_pure, toList_S]
  congr; rw [Bool.eq_iff_iff]; simp
theorem opV_slss {r : Bool} (hx : ev l x = some (S p)) (hy : ev l y = some (S q)) (hr : Op.bytesLess p q = r) : OpV P e n ⟨dst, .binOp .lss t x y u, ty, pos, after, g⟩ l As (.bool r) := fun ac w h => by
  subst hr
  simp only [execOp, h.eval hx, h.eval hy, Sem.run_bind, run_eqGuard_str, Result.andThen_ok, binOp_string_lss, Sem.run_pure, toList_S]
theorem opV_sleq {r : Bool} (hx : ev l x = some (S p)) (hy : ev l y = some (S q)) (hr : (Op.bytesLess p q || decide (p = q)) = r) : OpV P e n ⟨dst, .binOp .leq t x y u, ty, pos, after, g⟩ l As (.bool r) := fun ac w h => by
  subst hr
  simp only [execOp, h.eval hx, h.eval hy, Sem.run_bind, run_eqGuard_str, Result.andThen_ok, binOp, Op.stringOp, Sem.run_pure, toList_S]
  congr; rw [Bool.eq_iff_iff]; simp
theorem opV_sgeq {r : Bool} (hx : ev l x = some (S p)) (hy : ev l y = some (S q)) (hr : (!Op.bytesLess p q) = r) : OpV P e n ⟨dst, .binOp .geq t x y u, ty, pos, after, g⟩ l As (.bool r) := fun ac w h => by
  subst hr
  simp only [execOp, h.eval hx, h.eval hy, Sem.run_bind, run_eqGuard_str, Result.andThen_ok, binOp, Op.stringOp, Sem.run_pure, toList_S]
theorem opV_sadd (hx : ev l x = some (S p)) (hy : ev l y = some (S q)) (hb : p.length + q.length ≤ 9223372036854775807) : OpV P e n ⟨dst, .binOp .add t x y u, ty, pos, after, g⟩ l As (S (p ++ q)) := fun ac w h => by
  simp only [execOp, h.eval hx, h.eval hy, Sem.run_bind, run_eqGuard_str, Result.andThen_ok, binOp_string_add, Op.stringOp]
  have hm : IntKind.i64.max = 9223372036854775807 := by decide
  rw [if_neg (by rw [size_S, size_S, hm]; omega)]
  simp only [Sem.run_pure, Result.andThen_ok]
  congr 3
theorem opV_slen (ht : P.underlying t = some .string) (hx : ev l x = some (S p)) : OpV P e n ⟨dst, .call ⟨.builtin .len, #[x], #[t]⟩, ty, pos, after, g⟩ l As (.int .i64 p.length) := fun ac w h => by
  have e1 : (underlying t).run P w = .ok .string w := by simp [underlying, ht]
  simp only [execOp, resolve, invoke, builtin, h.eval hx, Builtin.len_, Sem.run_bind, Sem.run_pure, Result.andThen_ok, List.map_toArray, List.map_cons, List.map_nil, List.getElem?_toArray, List.getElem?_cons_zero, e1, goInt, size_S]
end
end Go.W

namespace Go.W
open Go.RowKit
/-- A slice that can be read: its n elements of so many cells each, in a part. -/
def Sl (A : Hp) (size : Nat) (v : Value) (n : Nat) (xs : List Value) : Prop :=
  xs.length = n * size ∧ (((∃ a c, v = .slice a 0 c) ∧ n = 0) ∨
    ∃ g o cap cur T fz, v = .slice (some ⟨g, o, none⟩) n cap ∧ n ≤ cap ∧ (g, .cells cur T fz) ∈ A ∧ (cur.toList.drop o).take (n * size) = xs)
theorem Sl.nil (A : Hp) (size : Nat) : Sl A size (.slice none 0 0) 0 [] := ⟨by simp, .inl ⟨⟨_, _, rfl⟩, rfl⟩⟩
theorem Sl.mono {A B : Hp} {size n : Nat} {v : Value} {xs : List Value} (h : Sl A size v n xs) (hs : A ⊆ B) : Sl B size v n xs := by
  refine ⟨h.1, h.2.imp id ?_⟩
  rintro ⟨g, o, cap, cur, T, fz, h1, h2, h3, h4⟩
  exact ⟨g, o, cap, cur, T, fz, h1, h2, hs h3, h4⟩
/-- The address of a slice's cell. -/
def elp : Value → Nat → Value
  | .slice (some a) _ _, k => .pointer (some ⟨a.block, a.off + k, none⟩)
  | _, _ => undef
theorem Sl.cell {e : Ctx} {w : World} {As : List Hp} {A : Hp} {size n k : Nat} {v u : Value} {xs : List Value} (h : Sl A size v n xs) (ho : Owns e w As) (hA : Has e As A) (hk : xs[k]? = some u) :
    ∃ ad, elp v k = .pointer (some ad) ∧ ad.spot = none ∧ w.cell? ad = some u := by
  obtain ⟨hl, ⟨⟨a0, c0, rfl⟩, rfl⟩ | ⟨g, o, cap, cur, T, fz, rfl, h2, h3, h4⟩⟩ := h
  · simp only [Nat.zero_mul] at hl
    have : xs = [] := List.eq_nil_of_length_eq_zero hl
    subst this; cases hk
  · refine ⟨_, rfl, rfl, ho.has_cell hA h3 ?_⟩
    rw [← h4, List.getElem?_take] at hk
    split at hk
    · simpa using hk
    · cases hk
theorem Sl.isSlice {A : Hp} {size n : Nat} {v : Value} {xs : List Value} (h : Sl A size v n xs) : ∃ a cap, v = .slice a n cap := by
  obtain ⟨_, ⟨⟨a0, c0, rfl⟩, rfl⟩ | ⟨g, o, cap, cur, T, fz, rfl, _⟩⟩ := h <;> exact ⟨_, _, rfl⟩

/-- A slice type's element: its type, cells, bytes, zero. -/
def slInfo (P : Program) (t : TypeId) : Option (TypeId × Nat × Nat × Option Value) :=
  match P.underlying t with
  | some (.slice E) => match P.info? E with
    | some i => some (E, i.size, i.bytes, i.zero)
    | none => none
  | _ => none
theorem slInfo_spec {P : Program} {t E size bytes : Nat} {z : Option Value} (h : slInfo P t = some (E, size, bytes, z)) :
    P.underlying t = some (.slice E) ∧ ∃ i, P.info? E = some i ∧ i.size = size ∧ i.bytes = bytes ∧ i.zero = z := by
  unfold slInfo at h
  split at h <;> try (cases h; done)
  rename_i E' hu
  split at h <;> try (cases h; done)
  rename_i i hi
  cases h
  exact ⟨hu, i, hi, rfl, rfl, rfl⟩

section
variable {P : Program} {e : Ctx} {n : Nat} {ops : Array Oper} {Q : Exit → Act → World → Prop} {rest : List Oper} {l : List (Nat × Value)} {As : List Hp}
variable {dst : Option Tmp} {d : Tmp} {op : Op} {ty : TypeId} {pos : String} {after : Array Edge} {g : Option (Nat × Bool)} {v u : Value} {x y : Operand} {t : TypeId}

theorem opV_len {E size bytes : Nat} {z : Option Value} (ht : slInfo P t = some (E, size, bytes, z)) (hx : ev l x = some v) {m : Nat} (hv : ∃ a cap, v = .slice a m cap) :
    OpV P e n ⟨dst, .call ⟨.builtin .len, #[x], #[t]⟩, ty, pos, after, g⟩ l As (.int .i64 m) := fun a w h => by
  obtain ⟨a', cap, rfl⟩ := hv
  have e1 : (underlying t).run P w = .ok (.slice E) w := by simp [underlying, (slInfo_spec ht).1]
  simp only [execOp, resolve, invoke, builtin, h.eval hx, Builtin.len_, Sem.run_bind, Sem.run_pure, Result.andThen_ok, List.map_toArray, List.map_cons, List.map_nil, List.getElem?_toArray, List.getElem?_cons_zero, e1, goInt]

theorem run_indexAt {E size bytes : Nat} {z : Option Value} (ht : slInfo P t = some (E, size, bytes, z)) {A : Hp} {m k : Nat} {xs : List Value} (hs : Sl A size v m xs) (hk : k < m) (w : World) {kd : IntKind} :
    (Instr.indexAt t v (.int kd (k : Int))).run P w = .ok (elp v (k * size)) w := by
  obtain ⟨hu, i, hi, rfl, rfl, rfl⟩ := slInfo_spec ht
  have e1 : (underlying t).run P w = .ok (.slice E) w := by simp [underlying, hu]
  obtain ⟨hl, ⟨⟨a0, c0, rfl⟩, rfl⟩ | ⟨g, o, cap, cur, T, fz, rfl, h2, h3, h4⟩⟩ := hs
  · omega
  · simp only [Instr.indexAt, asIntOf, Sem.run_bind, Sem.run_pure, Result.andThen_ok, e1]
    rw [if_pos ⟨by omega, by omega⟩]
    simp only [sizeOf, typeInfo, Sem.run_bind, run_program, Result.andThen_ok, hi, Sem.run_pure, elp, Int.toNat_natCast, Addr.add]
    split <;> simp_all
theorem opV_indexAddr {E size bytes : Nat} {z : Option Value} (ht : slInfo P t = some (E, size, bytes, z)) (hx : ev l x = some v) {A : Hp} {m k : Nat} {xs : List Value} (hs : Sl A size v m xs) {kd : IntKind}
    (hy : ev l y = some (.int kd (k : Int))) (hk : k < m) : OpV P e n ⟨dst, .indexAddr t x y, ty, pos, after, g⟩ l As (elp v (k * size)) := fun a w h => by
  simp only [execOp, h.eval hx, h.eval hy, Sem.run_bind, run_indexAt ht hs hk]; rfl
theorem opV_loadE (ht : scalarB P t = true) {k : Nat} (hx : ev l x = some (elp v k)) {A : Hp} {size m : Nat} {xs : List Value} (hs : Sl A size v m xs) (hA : Has e As A) (hk : xs[k]? = some u) :
    OpV P e n ⟨dst, .load t x, ty, pos, after, g⟩ l As u := fun a w h => by
  obtain ⟨ad, e1, _, hc⟩ := hs.cell h.owns hA hk
  rw [e1] at hx
  simp only [execOp, h.eval hx, Sem.run_bind, run_loadAt ht hc]; rfl
theorem opV_fieldE {s f off : Nat} (hf : fieldOff P s f = some off) {k : Nat} (hx : ev l x = some (elp v k)) {A : Hp} {size m : Nat} {xs : List Value} (hs : Sl A size v m xs) (hm : 0 < m) :
    OpV P e n ⟨dst, .fieldAddr s x f, ty, pos, after, g⟩ l As (elp v (k + off)) := fun a w h => by
  obtain ⟨hl, ⟨⟨a0, c0, rfl⟩, rfl⟩ | ⟨g, o, cap, cur, T, fz, rfl, h2, h3, h4⟩⟩ := hs
  · omega
  · simp only [elp] at hx ⊢
    simp only [execOp, h.eval hx, Sem.run_bind, run_fieldAt hf, Nat.add_assoc]; rfl

/-- A slice of a slice. -/
def rsl (size lo hi : Nat) : Value → Value
  | .slice a _ cap => .slice (if cap = lo then a else a.map (·.add (lo * size))) (hi - lo) (cap - lo)
  | v => v
/-- The same with a greatest. -/
def rsl3 (size lo hi mx : Nat) : Value → Value
  | .slice a _ _ => .slice (if mx = lo then a else a.map (·.add (lo * size))) (hi - lo) (mx - lo)
  | v => v
theorem sl_of_part {A : Hp} {size lo hi n g o cap cap' : Nat} {cur : Array Value} {T : TypeId} {fz : Nat × Nat} {xs : List Value} (hl : xs.length = n * size) (hg : (g, .cells cur T fz) ∈ A)
    (hx : (cur.toList.drop o).take (n * size) = xs) (h1 : lo ≤ hi) (h2 : hi ≤ n) (hc : hi - lo ≤ cap') (hz : cap = lo → hi = lo) :
    Sl A size (.slice (if cap = lo then some ⟨g, o, none⟩ else (some (⟨g, o, none⟩ : Addr)).map (·.add (lo * size))) (hi - lo) cap') (hi - lo) ((xs.drop (lo * size)).take ((hi - lo) * size)) := by
  have hlen : ((xs.drop (lo * size)).take ((hi - lo) * size)).length = (hi - lo) * size := by
    rw [List.length_take, List.length_drop, hl, ← Nat.sub_mul]
    exact Nat.min_eq_left (Nat.mul_le_mul_right _ (by omega))
  refine ⟨hlen, .inr ?_⟩
  by_cases hcl : cap = lo
  · have := hz hcl
    subst this
    refine ⟨g, o, cap', cur, T, fz, by simp [hcl], hc, hg, by simp⟩
  · refine ⟨g, o + lo * size, cap', cur, T, fz, ?_, hc, hg, ?_⟩
    · rw [if_neg hcl]
      simp only [Option.map_some, Addr.add]
      split <;> simp_all
    · rw [← hx, List.drop_take, List.take_take, List.drop_drop]
      congr 1
      rw [← Nat.sub_mul]
      exact (Nat.min_eq_left (Nat.mul_le_mul_right _ (by omega))).symm
theorem Sl.rsl {A : Hp} {size lo hi n : Nat} {v : Value} {xs : List Value} (h : Sl A size v n xs) (h1 : lo ≤ hi) (h2 : hi ≤ n) : Sl A size (rsl size lo hi v) (hi - lo) ((xs.drop (lo * size)).take ((hi - lo) * size)) := by
  obtain ⟨hl, ⟨⟨a0, c0, rfl⟩, rfl⟩ | ⟨g, o, cap, cur, T, fz, rfl, h3, h4, h5⟩⟩ := h
  · have : lo = 0 := by omega
    have : hi = 0 := by omega
    subst lo hi
    have : xs = [] := List.eq_nil_of_length_eq_zero (by simpa using hl)
    subst this
    exact ⟨by simp, .inl ⟨⟨_, _, by simp only [W.rsl]; rfl⟩, rfl⟩⟩
  · exact sl_of_part hl h4 h5 h1 h2 (by omega) (by omega)
theorem Sl.rsl3 {A : Hp} {size lo hi mx n : Nat} {v : Value} {xs : List Value} (h : Sl A size v n xs) (h1 : lo ≤ hi) (h2 : hi ≤ n) (h3 : hi ≤ mx) (h3' : mx ≤ n) : Sl A size (rsl3 size lo hi mx v) (hi - lo) ((xs.drop (lo * size)).take ((hi - lo) * size)) := by
  obtain ⟨hl, ⟨⟨a0, c0, rfl⟩, rfl⟩ | ⟨g, o, cap, cur, T, fz, rfl, h4, h5, h6⟩⟩ := h
  · have : lo = 0 := by omega
    have : hi = 0 := by omega
    subst lo hi
    have : xs = [] := List.eq_nil_of_length_eq_zero (by simpa using hl)
    subst this
    obtain rfl : mx = 0 := by omega
    exact ⟨by simp, .inl ⟨⟨_, _, by simp only [W.rsl3]; rfl⟩, rfl⟩⟩
  · exact sl_of_part hl h5 h6 h1 h2 (by omega) (by omega)

def OptIs (l : List (Nat × Value)) (o : Option Operand) (k d : Nat) : Prop :=
  match o with
  | none => k = d
  | some x => ∃ kd, ev l x = some (.int kd (k : Int))
theorem run_sliceBound {kd : IntKind} {k m : Nat} (h : k ≤ m) (c : BoundsCode) (w : World) : (Instr.sliceBound (.int kd (k : Int)) m c).run P w = .ok k w := by
  simp only [Instr.sliceBound, asIntOf, Sem.run_bind, Sem.run_pure, Result.andThen_ok]
  rw [if_pos ⟨by omega, by omega⟩]
  simp
theorem run_sliceBounds {lo hi : Option Operand} {lo' hi' m cap : Nat} {a : Act} {w : World} (h : St e n l As a w) (isS : Bool) (hlo : OptIs l lo lo' 0) (hhi : OptIs l hi hi' m) (h1 : lo' ≤ hi') (h2 : hi' ≤ cap) :
    (Instr.sliceBounds isS m cap (lo.map a.eval) (hi.map a.eval) none).run P w = .ok (lo', hi', cap) w := by
  unfold OptIs at hlo hhi
  cases lo <;> cases hi <;> simp only [] at hlo hhi
  · subst hlo hhi; simp [Instr.sliceBounds]
  · subst hlo; obtain ⟨kd, hhi⟩ := hhi; simp [Instr.sliceBounds, h.eval hhi, run_sliceBound h2]
  · subst hhi; obtain ⟨kd, hlo⟩ := hlo; simp [Instr.sliceBounds, h.eval hlo, run_sliceBound h1]
  · obtain ⟨kd, hlo⟩ := hlo; obtain ⟨kd', hhi⟩ := hhi; simp [Instr.sliceBounds, h.eval hlo, h.eval hhi, run_sliceBound h1, run_sliceBound h2]
theorem run_sliceBounds3 {lo hi mx : Option Operand} {lo' hi' mx' m cap : Nat} {a : Act} {w : World} (h : St e n l As a w) (isS : Bool) (hlo : OptIs l lo lo' 0) (hhi : hi.isSome = true ∧ OptIs l hi hi' m) (hmx : mx.isSome = true ∧ OptIs l mx mx' m) (h1 : lo' ≤ hi') (h2 : hi' ≤ mx') (h3 : mx' ≤ cap) :
    (Instr.sliceBounds isS m cap (lo.map a.eval) (hi.map a.eval) (mx.map a.eval)).run P w = .ok (lo', hi', mx') w := by
  obtain ⟨hi1, hhi⟩ := hhi
  obtain ⟨mx1, hmx⟩ := hmx
  obtain ⟨xh, rfl⟩ := Option.isSome_iff_exists.1 hi1
  obtain ⟨xm, rfl⟩ := Option.isSome_iff_exists.1 mx1
  simp only [OptIs] at hhi hmx
  obtain ⟨kd, hhi⟩ := hhi
  obtain ⟨km, hmx⟩ := hmx
  unfold OptIs at hlo
  cases lo <;> simp only [] at hlo
  · subst hlo; simp [Instr.sliceBounds, h.eval hhi, h.eval hmx, run_sliceBound h2, run_sliceBound h3]
  · obtain ⟨k', hlo⟩ := hlo; simp [Instr.sliceBounds, h.eval hlo, h.eval hhi, h.eval hmx, run_sliceBound h1, run_sliceBound h2, run_sliceBound h3]
theorem opV_slice {E size bytes : Nat} {z : Option Value} (ht : slInfo P t = some (E, size, bytes, z)) {lo hi : Option Operand} {lo' hi' m : Nat} (hx : ev l x = some v) {A : Hp} {xs : List Value} (hs : Sl A size v m xs)
    (hlo : OptIs l lo lo' 0) (hhi : OptIs l hi hi' m) (h1 : lo' ≤ hi') (h2 : hi' ≤ m) : OpV P e n ⟨dst, .slice t x lo hi none, ty, pos, after, g⟩ l As (rsl size lo' hi' v) := fun a w h => by
  obtain ⟨hu, i, hi, rfl, rfl, rfl⟩ := slInfo_spec ht
  have e1 : (underlying t).run P w = .ok (.slice E) w := by simp [underlying, hu]
  have e2 : (sizeOf E).run P w = .ok i.size w := by simp [sizeOf, typeInfo, hi]
  have hv : ∃ ad cap, v = .slice ad m cap ∧ m ≤ cap := by
    obtain ⟨_, ⟨⟨a0, c0, rfl⟩, rfl⟩ | ⟨g, o, cap, cur, T, fz, rfl, h3, _⟩⟩ := hs
    · exact ⟨_, _, rfl, Nat.zero_le _⟩
    · exact ⟨_, _, rfl, h3⟩
  obtain ⟨ad, cap, rfl, hc⟩ := hv
  have e3 := run_sliceBounds (P := P) (w := w) h true hlo hhi h1 (Nat.le_trans h2 hc)
  simp only [execOp, h.eval hx, Sem.run_bind, Instr.sliceAt, Result.andThen_ok, e1, Instr.slice, Option.map_none, e3, e2, Sem.run_pure, rsl]
theorem opV_slice3 {E size bytes : Nat} {z : Option Value} (ht : slInfo P t = some (E, size, bytes, z)) {lo hi mx : Option Operand} {lo' hi' mx' m : Nat} (hx : ev l x = some v) {A : Hp} {xs : List Value} (hs : Sl A size v m xs)
    (hlo : OptIs l lo lo' 0) (hhi : hi.isSome = true ∧ OptIs l hi hi' m) (hmx : mx.isSome = true ∧ OptIs l mx mx' m) (h1 : lo' ≤ hi') (h2 : hi' ≤ mx') (h3 : mx' ≤ m) : OpV P e n ⟨dst, .slice t x lo hi mx, ty, pos, after, g⟩ l As (rsl3 size lo' hi' mx' v) := fun a w h => by
  obtain ⟨hu, i, hi, rfl, rfl, rfl⟩ := slInfo_spec ht
  have e1 : (underlying t).run P w = .ok (.slice E) w := by simp [underlying, hu]
  have e2 : (sizeOf E).run P w = .ok i.size w := by simp [sizeOf, typeInfo, hi]
  have hv : ∃ ad cap, v = .slice ad m cap ∧ m ≤ cap := by
    obtain ⟨_, ⟨⟨a0, c0, rfl⟩, rfl⟩ | ⟨g, o, cap, cur, T, fz, rfl, h3, _⟩⟩ := hs
    · exact ⟨_, _, rfl, Nat.zero_le _⟩
    · exact ⟨_, _, rfl, h3⟩
  obtain ⟨ad, cap, rfl, hc⟩ := hv
  have e3 := run_sliceBounds3 (P := P) (w := w) h true hlo hhi hmx h1 h2 (Nat.le_trans h3 hc)
  simp only [execOp, h.eval hx, Sem.run_bind, Instr.sliceAt, Result.andThen_ok, e1, Instr.slice, e3, e2, Sem.run_pure, rsl3]
theorem opV_strslice (ht : P.underlying t = some .string) {lo hi : Option Operand} {lo' hi' : Nat} {p : Str} (hx : ev l x = some (S p))
    (hlo : OptIs l lo lo' 0) (hhi : OptIs l hi hi' p.length) (h1 : lo' ≤ hi') (h2 : hi' ≤ p.length) : OpV P e n ⟨dst, .slice t x lo hi none, ty, pos, after, g⟩ l As (S ((p.drop lo').take (hi' - lo'))) := fun a w h => by
  have e1 : (underlying t).run P w = .ok .string w := by simp [underlying, ht]
  have e3 := run_sliceBounds (P := P) (w := w) h false hlo hhi h1 h2
  simp only [execOp, h.eval hx, Sem.run_bind, Instr.sliceAt, Result.andThen_ok, e1, Instr.slice, Option.map_none, Option.isSome_none, Bool.false_eq_true, if_false, Sem.run_pure, size_S, e3]
  have e4 : (⟨p.toArray⟩ : ByteArray).extract lo' hi' = ⟨((p.drop lo').take (hi' - lo')).toArray⟩ := by
    apply ByteArray.ext
    rw [ByteArray.data_extract]
    apply Array.ext'
    simp [List.extract_eq_take_drop]
  rw [e4]
theorem opV_strindex (ht : P.underlying t = some .string) {k : Nat} {p : Str} {c : UInt8} {kd : IntKind} (hx : ev l x = some (S p)) (hy : ev l y = some (.int kd (k : Int))) (hk : p[k]? = some c) :
    OpV P e n ⟨dst, .index t x y, ty, pos, after, g⟩ l As (.int .u8 (c.toNat : Int)) := fun a w h => by
  have e1 : (underlying t).run P w = .ok .string w := by simp [underlying, ht]
  have e2 : (⟨p.toArray⟩ : ByteArray)[k]? = some c := by
    have hlt : k < p.length := (List.getElem?_eq_some_iff.1 hk).1
    rw [ByteArray.getElem?_lt' _ _ (by simpa [size_S] using hlt)]
    rw [← hk, List.getElem?_eq_getElem hlt]
    rfl
  simp only [execOp, h.eval hx, h.eval hy, Sem.run_bind, Instr.index, asIntOf, Sem.run_pure, Result.andThen_ok, e1]
  simp [e2]
end
end Go.W

namespace Go.W
open Go.RowKit
section
variable {P : Program} {e : Ctx} {n : Nat} {ops : Array Oper} {Q : Exit → Act → World → Prop} {rest : List Oper} {l : List (Nat × Value)} {As Bs : List Hp}
variable {dst : Option Tmp} {d : Tmp} {op : Op} {ty : TypeId} {pos : String} {after : Array Edge} {g : Option (Nat × Bool)} {v u : Value} {x y : Operand} {t : TypeId} {o : Oper}

/-! ### Operations that make a block, write, or call -/
variable (P e n) in
/-- An operation with an effect: its value and the heap behind it. -/
def OpE (o : Oper) (l : List (Nat × Value)) (As : List Hp) (post : Value → List Hp → Prop) : Prop :=
  ∀ a w, St e n l As a w → ∃ v w' Bs, (execOp a.eval o).run P w = .ok (.value v) w' ∧ post v Bs ∧ Owns e w' Bs
variable (P e n) in
/-- A write: no value. -/
def OpS (o : Oper) (l : List (Nat × Value)) (As Bs : List Hp) : Prop :=
  ∀ a w, St e n l As a w → ∃ w', (execOp a.eval o).run P w = .ok .skip w' ∧ Owns e w' Bs
/-- What a call gives back. -/
def Ret (e : Ctx) (post : Value → List Hp → Prop) : Ending → World → Prop
  | .returned v, w' => ∃ Bs, post v Bs ∧ Owns e w' Bs
  | _, _ => False
variable (P e n) in
/-- A call. -/
def OpC (o : Oper) (l : List (Nat × Value)) (As : List Hp) (post : Value → List Hp → Prop) : Prop :=
  ∀ a w, St e n l As a w → ∃ f args, (execOp a.eval o).run P w = .ok (.enter f args) w ∧ Calls P f args w (Ret e post)

theorem Ops.eff {post : Value → List Hp → Prop} (hg : wantedL ops l g = some true) (h : OpE P e n ⟨some d, op, ty, pos, after, g⟩ l As post) (hd : Nat.blt d n = true)
    (k : ∀ v Bs, post v Bs → Ops P e n ops Q rest ((d, v) :: l) Bs) : Ops P e n ops Q (⟨some d, op, ty, pos, after, g⟩ :: rest) l As := by
  intro a w hs
  unfold wpList
  rw [if_pos (hs.wanted hg)]
  refine .inl ?_
  obtain ⟨v, w', Bs, hr, hp, ho⟩ := h a w hs
  unfold Oper.wp
  rw [hr]
  exact k v Bs hp _ _ ((hs.world ho).put (d := some d) (fun t ht => by cases ht; exact Nat.blt_eq.mp hd))
theorem Ops.effN {post : Value → List Hp → Prop} (hg : wantedL ops l g = some true) (h : OpE P e n ⟨none, op, ty, pos, after, g⟩ l As post)
    (k : ∀ v Bs, post v Bs → Ops P e n ops Q rest l Bs) : Ops P e n ops Q (⟨none, op, ty, pos, after, g⟩ :: rest) l As := by
  intro a w hs
  unfold wpList
  rw [if_pos (hs.wanted hg)]
  refine .inl ?_
  obtain ⟨v, w', Bs, hr, hp, ho⟩ := h a w hs
  unfold Oper.wp
  rw [hr]
  exact k v Bs hp _ _ (hs.world ho)
theorem Ops.st (hg : wantedL ops l g = some true) (h : OpS P e n ⟨none, op, ty, pos, after, g⟩ l As Bs) (k : Ops P e n ops Q rest l Bs) :
    Ops P e n ops Q (⟨none, op, ty, pos, after, g⟩ :: rest) l As := by
  intro a w hs
  unfold wpList
  rw [if_pos (hs.wanted hg)]
  refine .inl ?_
  obtain ⟨w', hr, ho⟩ := h a w hs
  unfold Oper.wp
  rw [hr]
  exact k _ _ (hs.world ho)
theorem Ops.call {post : Value → List Hp → Prop} (hg : wantedL ops l g = some true) (h : OpC P e n ⟨dst, op, ty, pos, after, g⟩ l As post) (hd : (match dst with | some d => Nat.blt d n | none => true) = true)
    (k : ∀ v Bs, post v Bs → Ops P e n ops Q rest (putL l dst v) Bs) : Ops P e n ops Q (⟨dst, op, ty, pos, after, g⟩ :: rest) l As := by
  intro a w hs
  unfold wpList
  rw [if_pos (hs.wanted hg)]
  refine .inl ?_
  obtain ⟨f, args, hr, hc⟩ := h a w hs
  unfold Oper.wp
  rw [hr]
  refine Calls.mono hc ?_
  intro en w' hR
  cases en with
  | returned v =>
    obtain ⟨Bs, hp, ho⟩ := hR
    exact k v Bs hp _ _ ((hs.world ho).put (fun t ht => by subst ht; exact Nat.blt_eq.mp hd))
  | panicked c => exact hR.elim
  | outgrown => exact hR.elim

/-- A new block. -/
theorem opE_new {mk : Nat → Value} {ob : Obj} (h : ∀ a w, St e n l As a w → ∃ w', (execOp a.eval o).run P w = .ok (.value (mk w.heap.size)) w' ∧ w'.heap = (w.alloc ob).heap ∧ w'.os = w.os ∧ w'.tape = w.tape ∧ w'.output = w.output) :
    OpE P e n o l As (fun v Bs => ∃ b, v = mk b ∧ Bs = [(b, ob)] :: As) := fun a w hs => by
  obtain ⟨w', hr, hh, ho, ht, hp⟩ := h a w hs
  exact ⟨_, w', _, hr, ⟨_, rfl, rfl⟩, (hs.owns.alloc ob).congr hh ho ht hp⟩
theorem opE_box {E : TypeId} (hx : ev l x = some v) : OpE P e n ⟨dst, .box E x, ty, pos, after, g⟩ l As (fun v' Bs => ∃ b, v' = .pointer (some ⟨b, 0, none⟩) ∧ Bs = [(b, .cells v.cells E)] :: As) :=
  opE_new (mk := fun b => .pointer (some ⟨b, 0, none⟩)) fun a w h => ⟨w.alloc (.cells v.cells E), by simp [execOp, h.eval hx, Instr.box, newVar, newRow], rfl, rfl, rfl, rfl⟩
theorem opE_alloc {E : TypeId} {z : Value} (hz : (P.info? E).bind (·.zero) = some z) : OpE P e n ⟨dst, .alloc E, ty, pos, after, g⟩ l As (fun v' Bs => ∃ b, v' = .pointer (some ⟨b, 0, none⟩) ∧ Bs = [(b, .cells z.cells E)] :: As) :=
  opE_new (mk := fun b => .pointer (some ⟨b, 0, none⟩)) fun a w _ => by
    obtain ⟨i, hi, hz⟩ := Option.bind_eq_some_iff.1 hz
    exact ⟨w.alloc (.cells z.cells E), by simp [execOp, Instr.alloc, newVar, newRow, zeroValue, typeInfo, hi, hz], rfl, rfl, rfl, rfl⟩
theorem opE_makeMap {mt : TypeId} : OpE P e n ⟨dst, .makeMap mt none, ty, pos, after, g⟩ l As (fun v' Bs => ∃ b, v' = .map (some b) ∧ Bs = [(b, .map #[] 0)] :: As) :=
  opE_new (mk := fun b => .map (some b)) fun a w _ => ⟨w.alloc (.map #[] 0), by simp [execOp, Instr.makeMap], rfl, rfl, rfl, rfl⟩
/-- The places of a literal's parts, with their values. -/
def evps (l : List (Nat × Value)) : List (Nat × Operand) → Option (List (Nat × Value))
  | [] => some []
  | (i, x) :: xs => match ev l x, evps l xs with
    | some v, some vs => some ((i, v) :: vs)
    | _, _ => none
theorem St.evps {a : Act} {w : World} (h : St e n l As a w) : ∀ {ps : List (Nat × Operand)} {vs : List (Nat × Value)}, evps l ps = some vs → ps.map (fun (i, x) => (i, a.eval x)) = vs := by
  intro ps
  induction ps with
  | nil => intro vs hx; simp only [W.evps, Option.some.injEq] at hx; simp [← hx]
  | cons p ps ih =>
    intro vs hx
    obtain ⟨i, x⟩ := p
    simp only [W.evps] at hx
    split at hx
    · rename_i v vs' h1 h2
      simp only [Option.some.injEq] at hx
      subst hx
      simp only [List.map_cons, h.eval h1, ih h2]
    · cases hx
/-- A struct type's zero cells, and where its fields lie. -/
def stInfo (P : Program) (t : TypeId) : Option (Array Value × Array (Nat × Nat)) :=
  match P.underlying t, P.info? t with
  | some (.struct fs), some i => match i.zero with
    | some z => match fs.mapM (fun f => (P.info? f.type).map fun j => (f.offset, j.size)) with
      | some pl => some (z.cells, pl)
      | none => none
    | none => none
  | _, _ => none
theorem run_mapM_opt {α β : Type} (f : α → Option β) (g : α → Sem β) (hg : ∀ x y, f x = some y → ∀ w, (g x).run P w = .ok y w) :
    ∀ (xs : List α) (ys : List β), xs.mapM f = some ys → ∀ w, (xs.mapM g).run P w = .ok ys w := by
  intro xs
  induction xs with
  | nil => intro ys h w; simp at h; subst h; simp
  | cons x xs ih =>
    intro ys h w
    simp only [List.mapM_cons, Option.bind_eq_bind, Option.bind_eq_some_iff, Option.pure_def, Option.some.injEq] at h
    obtain ⟨y, h1, ys', h2, rfl⟩ := h
    simp [hg x y h1, ih ys' h2]
theorem run_mapM_optA {α β : Type} (f : α → Option β) (g : α → Sem β) (hg : ∀ x y, f x = some y → ∀ w, (g x).run P w = .ok y w)
    (xs : Array α) (ys : Array β) (h : xs.mapM f = some ys) (w : World) : (xs.mapM g).run P w = .ok ys w := by
  obtain ⟨xs⟩ := xs
  obtain ⟨ys⟩ := ys
  simp only [List.mapM_toArray] at h ⊢
  have h' : xs.mapM f = some ys := by
    cases hq : xs.mapM f with
    | none => simp [hq] at h
    | some zs => simp [hq] at h; rw [h]
  simp [run_mapM_opt f g hg xs ys h' w]
/-- A value's cells. -/
def vcells : Value → List Value
  | .agg cs => cs.toList
  | v => [v]
theorem vcells_eq (v : Value) : v.cells.toList = vcells v := by cases v <;> rfl
def putAt : List Value → Nat → List Value → List Value
  | cs, _, [] => cs
  | [], _, _ => []
  | _ :: cs, 0, v :: vs => v :: putAt cs 0 vs
  | c :: cs, k + 1, vs => c :: putAt cs k vs
def fillL (place : Nat → Option (Nat × Nat)) (cells : List Value) : List (Nat × Value) → Option (List Value)
  | [] => some cells
  | (i, v) :: rest => match place i with
    | none => none
    | some (off, size) => if (vcells v).length = size ∧ off + size ≤ cells.length then fillL place (putAt cells off (vcells v)) rest else none
theorem putAt_set : ∀ (vs cs : List Value) (off : Nat), off + vs.length ≤ cs.length → putAt cs off vs = cs.take off ++ vs ++ cs.drop (off + vs.length)
  | [], cs, off, _ => by cases cs <;> cases off <;> simp [putAt]
  | v :: vs, [], off, h => by simp at h
  | v :: vs, c :: cs, 0, h => by
    have := putAt_set vs cs 0 (by simp at h ⊢; omega)
    simp [putAt, this, Nat.add_comm]
  | v :: vs, c :: cs, off + 1, h => by
    have := putAt_set (v :: vs) cs off (by simp at h ⊢; omega)
    have e1 : off + 1 + (v :: vs).length = (off + (v :: vs).length) + 1 := by omega
    rw [putAt, this, e1, List.drop_succ_cons, List.take_succ_cons, List.cons_append, List.cons_append]
    · exact fun h => by cases h
theorem foldl_put : ∀ (vs : List Value) (k off : Nat) (cs : Array Value), off + k + vs.length ≤ cs.size →
    (vs.zipIdx k).foldl (fun (cs : Array Value) (x : Value × Nat) => cs.setIfInBounds (off + x.2) x.1) cs = (cs.toList.take (off + k) ++ vs ++ cs.toList.drop (off + k + vs.length)).toArray
  | [], k, off, cs, _ => by simp
  | v :: vs, k, off, cs, h => by
    simp only [List.length_cons] at h
    rw [List.zipIdx_cons, List.foldl_cons, foldl_put vs (k + 1) off _ (by simp; omega)]
    congr 1
    simp only [Array.toList_setIfInBounds]
    have hk : off + k < cs.toList.length := by simp; omega
    rw [show off + (k + 1) = off + k + 1 by omega, List.take_succ_eq_append_getElem (by simpa using hk)]
    simp only [List.getElem_set_self, List.append_assoc, List.singleton_append, List.length_cons]
    rw [List.take_set_of_le (by omega), List.drop_set_of_lt (by omega)]
    congr 3
    omega
theorem fill_of_L (place : Nat → Option (Nat × Nat)) : ∀ (vs : List (Nat × Value)) (cells cs : List Value), fillL place cells vs = some cs → Instr.fill place cells.toArray vs = some cs.toArray
  | [], cells, cs, h => by simp only [fillL, Option.some.injEq] at h; simp [Instr.fill, h]
  | (i, v) :: rest, cells, cs, h => by
    simp only [fillL] at h
    simp only [Instr.fill]
    cases hp : place i with
    | none => simp [hp] at h
    | some os =>
      obtain ⟨off, size⟩ := os
      simp only [hp] at h ⊢
      by_cases hc : (vcells v).length = size ∧ off + size ≤ cells.length
      case neg => rw [if_neg hc] at h; cases h
      case pos =>
        rw [if_pos hc] at h
        obtain ⟨h1, h2⟩ := hc
        have hsz : v.cells.size = size := by rw [← h1, ← vcells_eq]; simp
        rw [if_neg (by simp [hsz]; exact h2)]
        have e1 : v.cells.zipIdx.foldl (fun (cs : Array Value) (x : Value × Nat) => cs.setIfInBounds (off + x.2) x.1) cells.toArray = (putAt cells off (vcells v)).toArray := by
          have e2 : v.cells = (vcells v).toArray := by rw [← vcells_eq]
          rw [e2, ← Array.foldl_toList, Array.toList_zipIdx, foldl_put (vcells v) 0 off cells.toArray (by simp; omega), putAt_set _ _ _ (by omega)]
          simp
        have e3 := fill_of_L place rest (putAt cells off (vcells v)) cs h
        rw [← e1] at e3
        exact e3
theorem run_build {t : TypeId} {z : Array Value} {pl : Array (Nat × Nat)} {vs : List (Nat × Value)} {cs : Array Value} (hs : stInfo P t = some (z, pl)) (hf : Instr.fill (pl[·]?) z vs = some cs) (w : World) :
    (Instr.build t vs.toArray).run P w = .ok (.agg cs) w := by
  unfold stInfo at hs
  split at hs <;> try (cases hs; done)
  rename_i fs i hu hi
  split at hs <;> try (cases hs; done)
  rename_i zv hz
  split at hs <;> try (cases hs; done)
  rename_i pl' hpl
  cases hs
  have e1 : (zeroValue t).run P w = .ok zv w := by simp [zeroValue, typeInfo, hi, hz]
  have e2 : (underlying t).run P w = .ok (.struct fs) w := by simp [underlying, hu]
  have e3 := run_mapM_optA (P := P) _ (fun f => do pure (f.offset, ← sizeOf f.type)) (fun x y h w => by
    obtain ⟨j, hj, rfl⟩ := Option.map_eq_some_iff.1 h
    simp [sizeOf, typeInfo, hj]) fs pl hpl w
  simp only [Instr.build, Sem.run_bind, e1, Result.andThen_ok, e2, e3, hf, Sem.run_pure]
theorem opV_build {t : TypeId} {ps : List (Nat × Operand)} {vs : List (Nat × Value)} {z : List Value} {pl : Array (Nat × Nat)} {cs : List Value} (hs : stInfo P t = some (z.toArray, pl)) (hps : W.evps l ps = some vs)
    (hf : fillL (pl.toList[·]?) z vs = some cs) : OpV P e n ⟨dst, .build t ps.toArray, ty, pos, after, g⟩ l As (.agg cs.toArray) := fun a w h => by
  have := h.evps hps
  have hf' := fill_of_L _ _ _ _ hf
  simp only [Array.getElem?_toList] at hf'
  simp only [execOp, Sem.run_bind, List.map_toArray, this, run_build hs hf']; rfl
/-- The cells of a slice literal ahead of its parts. -/
def rowCells : Nat → Value → List Value
  | 0, _ => []
  | len + 1, z => vcells z ++ rowCells len z
theorem rowCells_length (len : Nat) (z : Value) : (rowCells len z).length = len * (vcells z).length := by
  induction len with
  | zero => simp [rowCells]
  | succ k ih => simp only [rowCells, List.length_append, ih, Nat.succ_mul]; omega
theorem rowCells_get (z : Value) : ∀ (len i : Nat), i < len * (vcells z).length → (rowCells len z)[i]? = (vcells z)[i % (vcells z).length]?
  | 0, i, h => by simp at h
  | len + 1, i, h => by
    rw [Nat.succ_mul] at h
    simp only [rowCells]
    by_cases hi : i < (vcells z).length
    · rw [List.getElem?_append_left hi, Nat.mod_eq_of_lt hi]
    · rw [List.getElem?_append_right (by omega), rowCells_get z len _ (by omega)]
      congr 1
      rw [← Nat.mod_eq_sub_mod (by omega)]
theorem rowCells_eq (size len : Nat) (z : Value) (hz : z.cells.size = size) : (Array.range (len * size)).map (fun i => z.cells[i % z.cells.size]!) = (rowCells len z).toArray := by
  have hz' : (vcells z).length = size := by rw [← vcells_eq]; simpa using hz
  apply Array.ext'
  apply List.ext_getElem?
  intro i
  by_cases hi : i < len * size
  · have hpos : 0 < size := Nat.pos_of_ne_zero fun h => by subst h; simp at hi
    have hm : i % size < size := Nat.mod_lt _ hpos
    rw [show (rowCells len z).toArray.toList = rowCells len z from rfl, rowCells_get z len i (by rw [hz']; exact hi), hz']
    simp only [Array.toList_map, Array.toList_range, List.getElem?_map, List.getElem?_range hi, Option.map_some, hz]
    rw [← vcells_eq, Array.getElem?_toList, getElem!_pos z.cells (i % size) (by omega)]
    simp
  · rw [List.getElem?_eq_none (by simp; omega), List.getElem?_eq_none (by simp [rowCells_length, hz']; omega)]
theorem opE_buildSlice {t E len size bytes : Nat} {z : Value} {ps : List (Nat × Operand)} {vs : List (Nat × Value)} {cs : List Value} (ht : slInfo P t = some (E, size, bytes, some z)) (hps : W.evps l ps = some vs)
    (hlen : (!Nat.beq (len * size) 0 && Nat.ble (len * size) 16777216 && Nat.beq (vcells z).length size) = true)
    (hf : fillL (fun i => some (i * size, size)) (rowCells len z) vs = some cs) :
    OpE P e n ⟨dst, .buildSlice t len ps.toArray, ty, pos, after, g⟩ l As (fun v' Bs => ∃ b, v' = .slice (some ⟨b, 0, none⟩) len len ∧ Bs = [(b, .cells cs.toArray E)] :: As) :=
  opE_new (mk := fun b => .slice (some ⟨b, 0, none⟩) len len) fun a w h => ⟨w.alloc (.cells cs.toArray E), by
    have := h.evps hps
    obtain ⟨hu, i, hi, rfl, rfl, hz⟩ := slInfo_spec ht
    simp only [Bool.and_eq_true, Bool.not_eq_true', Nat.ble_eq] at hlen
    have h0 : len * i.size ≠ 0 := Nat.ne_of_beq_eq_false hlen.1.1
    have hzs : z.cells.size = i.size := by have := Nat.eq_of_beq_eq_true hlen.2; rw [← vcells_eq] at this; simpa using this
    have e1 : (underlying t).run P w = .ok (.slice E) w := by simp [underlying, hu]
    have e2 : (sizeOf E).run P w = .ok i.size w := by simp [sizeOf, typeInfo, hi]
    have e3 : (zeroValue E).run P w = .ok z w := by simp [zeroValue, typeInfo, hi, hz]
    have h2 : ¬ (len * i.size > 2 ^ 24) := by omega
    have hf' := fill_of_L _ _ _ _ hf
    rw [← rowCells_eq i.size len z hzs] at hf'
    simp only [execOp, Sem.run_bind, List.map_toArray, this, Instr.buildSlice, e1, e2, Result.andThen_ok, if_neg h2, if_neg h0, e3, Sem.run_pure, hf', newRow, run_newObj]
    rfl, rfl, rfl, rfl, rfl⟩
/-- A literal without elements. -/
theorem opE_buildSlice0 {t E size bytes : Nat} {z : Option Value} (ht : slInfo P t = some (E, size, bytes, z)) :
    OpE P e n ⟨dst, .buildSlice t 0 #[], ty, pos, after, g⟩ l As (fun v' Bs => ∃ b, v' = .slice (some ⟨b, 0, none⟩) 0 0 ∧ Bs = [(b, .cells #[] E)] :: As) :=
  opE_new (mk := fun b => .slice (some ⟨b, 0, none⟩) 0 0) fun a w h => ⟨w.alloc (.cells #[] E), by
    obtain ⟨hu, i, hi, rfl, rfl, hz⟩ := slInfo_spec ht
    have e1 : (underlying t).run P w = .ok (.slice E) w := by simp [underlying, hu]
    have e2 : (sizeOf E).run P w = .ok i.size w := by simp [sizeOf, typeInfo, hi]
    have e3 : (Array.range 0) = #[] := rfl
    simp [execOp, Instr.buildSlice, e1, e2, Instr.fill, newRow, e3], rfl, rfl, rfl, rfl⟩

/-- One cell of a part is written. -/
inductive Upd : List Hp → Nat → Obj → Obj → List Hp → Prop
  | hd {b : Nat} {o o' : Obj} {F : List Hp} : Upd ([(b, o)] :: F) b o o' ([(b, o')] :: F)
  | tl {b : Nat} {o o' : Obj} {F F' : List Hp} {A : Hp} (h : Upd F b o o' F') : Upd (A :: F) b o o' (A :: F')
theorem Upd.pick {b : Nat} {o o' : Obj} {F F' : List Hp} (h : Upd F b o o' F') : ∃ R, Pick F [(b, o)] R ∧ F'.Perm ([(b, o')] :: R) := by
  induction h with
  | hd => exact ⟨_, .hd, .refl _⟩
  | tl _ ih => obtain ⟨R, h1, h2⟩ := ih; exact ⟨_, .tl h1, (h2.cons _).trans (.swap _ _ _)⟩
theorem Owns.upd {b : Nat} {ob ob' : Obj} {w w' : World} (h : Owns e w As) (hu : Upd As b ob ob' Bs) (hb : w'.heap[b]? = some ob') (hc : ∀ c, c ≠ b → w'.heap[c]? = w.heap[c]?)
    (ho : w'.os = w.os) (ht : w'.tape = w.tape) (hp : w'.output = w.output) : Owns e w' Bs := by
  obtain ⟨R, h1, h2⟩ := hu.pick
  exact (Owns.put (h.pick h1) hb hc ho ht hp).perm h2.symm.flatten
theorem Upd.get {b : Nat} {ob ob' : Obj} {w : World} (hu : Upd As b ob ob' Bs) (h : Owns e w As) : w.heap[b]? = some ob := by
  obtain ⟨R, h1, _⟩ := hu.pick
  exact (h.pick h1).own.get b ob (by simp)
inductive LSet : List Value → Nat → Value → List Value → Prop
  | hd {x v : Value} {xs : List Value} : LSet (x :: xs) 0 v (v :: xs)
  | tl {x v : Value} {xs ys : List Value} {i : Nat} (h : LSet xs i v ys) : LSet (x :: xs) (i + 1) v (x :: ys)
theorem LSet.eq {xs ys : List Value} {i : Nat} {v : Value} (h : LSet xs i v ys) : xs.toArray.setIfInBounds i v = ys.toArray ∧ i < xs.length := by
  induction h with
  | hd => simp
  | tl _ ih =>
    obtain ⟨h1, h2⟩ := ih
    refine ⟨?_, by simp; omega⟩
    simp only [List.setIfInBounds_toArray, List.set_cons_succ] at h1 ⊢
    congr 2
    simpa using h1
theorem opS_store' {t b i : Nat} {cs : Array Value} {T : TypeId} {fz : Nat × Nat} (_ht : scalarB P t = true) (hsz : (P.info? t).map (·.size) = some 1) (hx : ev l x = some (.pointer (some ⟨b, i, none⟩))) (hy : ev l y = some v) (hv : v.oneCell' = true)
    (hi : Nat.blt i cs.size = true) (hfz : (fz.1 ≤ i && i < fz.2) = false) (hu : Upd As b (.cells cs T fz) (.cells (cs.setIfInBounds i v) T fz) Bs) :
    OpS P e n ⟨none, .store t x y, ty, pos, after, g⟩ l As Bs := fun a w h => by
  have hb := hu.get h.owns
  have hi : i < cs.size := Nat.blt_eq.mp hi
  have hcell : w.cell? ⟨b, i, none⟩ = some cs[i] := by simp [World.cell?, hb, hi]
  have hfr : w.frozen? ⟨b, i, none⟩ = false := by
    obtain ⟨lo, h2⟩ := fz
    simpa [World.frozen?, hb] using hfz
  have hcells : v.cells = #[v] := by cases v <;> first | rfl | (simp [Value.oneCell'] at hv)
  obtain ⟨inf, hinf, hs1⟩ : ∃ inf, P.info? t = some inf ∧ inf.size = 1 := by
    cases hq : P.info? t with
    | none => simp [hq] at hsz
    | some inf => exact ⟨inf, rfl, by simpa [hq] using hsz⟩
  have e1 : (storeCells ⟨b, i, none⟩ [v]).run P w = .ok () (w.setCell ⟨b, i, none⟩ v) := by
    simp only [storeCells, Sem.run_bind, Addr.add, if_true, run_store P w _ v .plain hv, hcell, hfr, Bool.false_eq_true, if_false, Result.andThen_ok, Sem.run_pure]
  refine ⟨w.setCell ⟨b, i, none⟩ v, ?_, ?_⟩
  · simp only [execOp, h.eval hx, h.eval hy, Sem.run_bind, Instr.storeAt, Instr.sureAddr, Sem.run_pure, Result.andThen_ok, storeVar, hcells, sizeOf, typeInfo, run_program, hinf, hs1]
    simp [e1]
  · refine h.owns.upd hu ?_ (fun c hc => Below.heap_setCell w _ v c hc) rfl rfl rfl
    simp only [World.setCell, Array.getElem?_modify, if_true, hb]
    simp

theorem opS_store {t b i : Nat} {xs ys : List Value} {T : TypeId} {fz : Nat × Nat} (ht : scalarB P t = true) (hsz : (P.info? t).map (·.size) = some 1) (hx : ev l x = some (.pointer (some ⟨b, i, none⟩))) (hy : ev l y = some v) (hv : v.oneCell' = true)
    (hfz : (fz.1 ≤ i && i < fz.2) = false) (hu : Upd As b (.cells xs.toArray T fz) (.cells ys.toArray T fz) Bs) (hl : LSet xs i v ys) :
    OpS P e n ⟨none, .store t x y, ty, pos, after, g⟩ l As Bs := by
  obtain ⟨h1, h2⟩ := hl.eq
  exact opS_store' ht hsz hx hy hv (Nat.blt_eq.mpr h2) hfz (by rw [h1]; exact hu)

def callable (P : Program) (f : Nat) : Bool :=
  match P.funcs[f]? with
  | some fn => !(fn.name == "runtime.NumGoroutine") && fn.body.isSome
  | none => false
theorem run_callFunc {f : Nat} (hf : callable P f = true) (args : Array Value) (w : World) : (callFunc f args).run P w = .ok (.enter f args) w := by
  unfold callable at hf
  split at hf
  · rename_i fn hfn
    simp only [Bool.and_eq_true, Bool.not_eq_true'] at hf
    obtain ⟨h1, h2⟩ := hf
    obtain ⟨c, hc⟩ := Option.isSome_iff_exists.1 h2
    simp only [callFunc, Sem.run_bind, run_program, Result.andThen_ok, hfn, h1, Bool.false_eq_true, if_false, hc, Option.isNone_some]
    rfl
  · cases hf
theorem opC_call {f : Nat} {xs : List Operand} {vs : List Value} {tys : Array TypeId} {post : Value → List Hp → Prop} (hf : callable P f = true) (hx : evs l xs = some vs)
    (hc : ∀ w, Owns e w As → Calls P f vs.toArray w (Ret e post)) : OpC P e n ⟨dst, .call ⟨.value (.func f), xs.toArray, tys⟩, ty, pos, after, g⟩ l As post := fun a w h => by
  refine ⟨f, vs.toArray, ?_, hc w h.owns⟩
  have e1 : xs.toArray.map a.eval = vs.toArray := by simp [h.evals hx]
  simp only [execOp, resolve, e1, Act.eval, Deferred.ofValue, Sem.run_bind, Sem.run_pure, Result.andThen_ok, invoke]
  rw [show (#[] ++ vs.toArray : Array Value) ++ #[] = vs.toArray by simp]
  exact run_callFunc hf _ w
/-- A call of a function value. -/
theorem opC_callv {f : Nat} {fx : Operand} {xs : List Operand} {vs cap : List Value} {tys : Array TypeId} {post : Value → List Hp → Prop} (hfx : ev l fx = some (.func (.func f) #[] cap.toArray)) (hf : callable P f = true) (hx : evs l xs = some vs)
    (hc : ∀ w, Owns e w As → Calls P f (vs ++ cap).toArray w (Ret e post)) : OpC P e n ⟨dst, .call ⟨.value fx, xs.toArray, tys⟩, ty, pos, after, g⟩ l As post := fun a w h => by
  refine ⟨f, (vs ++ cap).toArray, ?_, hc w h.owns⟩
  have e1 : xs.toArray.map a.eval = vs.toArray := by simp [h.evals hx]
  simp only [execOp, resolve, e1, h.eval hfx, Deferred.ofValue, Sem.run_bind, Sem.run_pure, Result.andThen_ok, invoke]
  rw [show (#[] ++ vs.toArray : Array Value) ++ cap.toArray = (vs ++ cap).toArray by simp]
  exact run_callFunc hf _ w
theorem opV_extract {vs : Array Value} {i : Nat} (hx : ev l x = some (.tuple vs)) (hi : vs[i]? = some v) : OpV P e n ⟨dst, .extract x i, ty, pos, after, g⟩ l As v := fun a w h => by
  simp [execOp, h.eval hx, Instr.extract, hi]

/-! ### A function -/
/-- The arguments' slots. -/
def argsL : Nat → List Value → List (Nat × Value)
  | _, [] => []
  | k, v :: vs => (k, v) :: argsL (k + 1) vs
theorem lk_argsL {t : Nat} {v : Value} : ∀ {vs : List Value} {k : Nat}, lk (argsL k vs) t = some v → k ≤ t ∧ vs[t - k]? = some v
  | [], _, h => by cases h
  | u :: vs, k, h => by
    simp only [argsL, lk] at h
    cases hb : Nat.beq k t with
    | true =>
      rw [hb] at h
      obtain rfl : k = t := Nat.eq_of_beq_eq_true hb
      simp only [cond_true, Option.some.injEq] at h
      subst h
      simp
    | false =>
      rw [hb] at h
      have hne : k ≠ t := Nat.ne_of_beq_eq_false hb
      obtain ⟨h1, h2⟩ := lk_argsL (vs := vs) (k := k + 1) h
      refine ⟨by omega, ?_⟩
      rw [show t - k = t - (k + 1) + 1 by omega]
      simpa using h2
theorem enter {f : Nat} {fn : Func} {c : Code} {args : List Value} {w : World} {post : Value → List Hp → Prop} (hf : P.funcs[f]? = some fn) (hb : fn.body = some c) (hn : fn.ntmps = n) (ho : Owns e w As)
    (ha : Nat.ble args.length n = true) (h : Cod P e n (bodyPost P fn (Ret e post)) c (argsL 0 args) As) : Calls P f args.toArray w (Ret e post) := by
  have ha := Nat.le_of_ble_eq_true ha
  refine calls_of_wp hf hb (h _ w ⟨?_, rfl, ?_, ho⟩)
  · subst hn; simp; omega
  · intro t v ht
    have := (lk_argsL ht).2
    simp only [Nat.sub_zero] at this
    have hlt : t < args.length := (List.getElem?_eq_some_iff.1 this).1
    simp only [List.size_toArray]
    rw [Array.getElem?_append_left (by simpa using hlt)]
    simpa using this

theorem Ex.ret1 {fn : Func} {t : Tmp} {post : Value → List Hp → Prop} (hr : fn.results = #[.tmp t]) (ht : lk l t = some v) (hb : ∀ w, Owns e w As → Owns e w Bs) (h : post v Bs) : Ex e n (bodyPost P fn (Ret e post)) .ret l As := fun a w hs => by
  refine ⟨hs.defers, v, ?_, Bs, h, hb w hs.owns⟩
  have := hs.get t v ht
  rw [results_tmp hr]; simp [this]
theorem Ex.ret2 {fn : Func} {t s : Tmp} {post : Value → List Hp → Prop} (hr : fn.results = #[.tmp t, .tmp s]) (ht : lk l t = some v) (hs : lk l s = some u) (hb : ∀ w, Owns e w As → Owns e w Bs) (h : post (.tuple #[v, u]) Bs) : Ex e n (bodyPost P fn (Ret e post)) .ret l As := fun a w hst => by
  refine ⟨hst.defers, _, ?_, Bs, h, hb w hst.owns⟩
  rw [results_tmp2 hr]; simp [hst.get t v ht, hst.get s u hs]
theorem Ex.ret0 {fn : Func} {post : Value → List Hp → Prop} (hr : fn.results = #[]) (hb : ∀ w, Owns e w As → Owns e w Bs) (h : post (.tuple #[]) Bs) : Ex e n (bodyPost P fn (Ret e post)) .ret l As := fun _ w hs =>
  ⟨hs.defers, _, results_none hr _ _ _, Bs, h, hb w hs.owns⟩
theorem Ex.end0 {fn : Func} {post : Value → List Hp → Prop} (hr : fn.results = #[]) (hb : ∀ w, Owns e w As → Owns e w Bs) (h : post (.tuple #[]) Bs) : Ex e n (bodyPost P fn (Ret e post)) .normal l As := fun _ w hs =>
  ⟨hs.defers, _, results_none hr _ _ _, Bs, h, hb w hs.owns⟩
end
end Go.W

namespace Go.W
open Go.RowKit
/-- A slice that owns its array, from some place of it on. -/
def Row (E size : Nat) (v : Value) (n : Nat) (xs : List Value) (A : Hp) : Prop :=
  xs.length = n * size ∧ ((v = .slice none 0 0 ∧ n = 0 ∧ A = []) ∨
    ∃ g o cap cur, v = .slice (some ⟨g, o, none⟩) n cap ∧ A = [(g, .cells cur E)] ∧ n ≤ cap ∧ cap ≤ maxLen ∧ o + cap * size ≤ cur.size ∧ (cur.toList.drop o).take (n * size) = xs)
theorem Row.nil (E size : Nat) : Row E size (.slice none 0 0) 0 [] [] := ⟨by simp, .inl ⟨rfl, rfl, rfl⟩⟩
theorem Row.sl {E size n : Nat} {v : Value} {xs : List Value} {A : Hp} (h : Row E size v n xs A) : Sl A size v n xs := by
  refine ⟨h.1, ?_⟩
  rcases h.2 with ⟨h1, h2, _⟩ | ⟨g, o, cap, cur, rfl, rfl, h3, h4, h5, h6⟩
  · exact .inl ⟨⟨_, _, h1⟩, h2⟩
  · exact .inr ⟨g, o, cap, cur, E, (0, 0), rfl, h3, by simp, h6⟩
theorem Row.len {E size n : Nat} {v : Value} {xs : List Value} {A : Hp} (h : Row E size v n xs A) : xs.length = n * size := h.1
theorem Sl.one {A : Hp} {size n : Nat} {v : Value} {xs : List Value} (h : Sl A size v n xs) : v.oneCell' = true := by
  obtain ⟨a, cap, rfl⟩ := h.isSlice; rfl
theorem Row.one {E size n : Nat} {v : Value} {xs : List Value} {A : Hp} (h : Row E size v n xs A) : v.oneCell' = true := h.sl.one
/-- A row that was just made. -/
theorem Row.made {E size n b : Nat} {cs : Array Value} (h : cs.size = n * size) (hm : n ≤ maxLen) : Row E size (.slice (some ⟨b, 0, none⟩) n n) n cs.toList [(b, .cells cs E)] := by
  refine ⟨by simpa using h, .inr ⟨b, 0, n, cs, rfl, rfl, Nat.le_refl _, hm, by omega, ?_⟩⟩
  rw [← h, List.drop_zero, ← Array.length_toList, List.take_length]
theorem Row.rsl {E size lo hi n : Nat} {v : Value} {xs : List Value} {A : Hp} (h : Row E size v n xs A) (h1 : lo ≤ hi) (h2 : hi ≤ n) : Row E size (rsl size lo hi v) (hi - lo) ((xs.drop (lo * size)).take ((hi - lo) * size)) A := by
  refine ⟨(h.sl.rsl h1 h2).1, ?_⟩
  rcases h.2 with ⟨rfl, rfl, hA⟩ | ⟨g, o, cap, cur, rfl, rfl, h3, h4, h5, h6⟩
  · obtain rfl : lo = 0 := by omega
    obtain rfl : hi = 0 := by omega
    exact .inl ⟨by simp [W.rsl], rfl, hA⟩
  · refine .inr ?_
    by_cases hc : cap = lo
    · subst hc
      obtain rfl : hi = cap := by omega
      exact ⟨g, o, 0, cur, by simp [W.rsl], rfl, by omega, by simp [maxLen], by omega, by simp⟩
    · refine ⟨g, o + lo * size, cap - lo, cur, ?_, rfl, by omega, by simp only [maxLen] at *; omega, ?_, ?_⟩
      · simp only [W.rsl, if_neg hc, Option.map_some, Addr.add]
        split <;> simp_all
      · have : (cap - lo) * size = cap * size - lo * size := Nat.sub_mul ..
        have : lo * size ≤ cap * size := Nat.mul_le_mul_right _ (by omega)
        omega
      · rw [← h6, List.drop_take, List.take_take, List.drop_drop]
        congr 1
        rw [← Nat.sub_mul]
        exact (Nat.min_eq_left (Nat.mul_le_mul_right _ (by omega))).symm

/-- What an append adds. -/
structure Src (P : Program) (e : Ctx) (As : List Hp) (size : Nat) (u : Value) (m : Nat) (news : List Value) : Prop where
  len : ∀ w, (Builtin.lenOf u).run P w = .ok m w
  cells : ∀ w, Owns e w As → (Builtin.firstCells size m u).run P w = .ok news.toArray w
  size : news.length = m * size
  one : ∀ u ∈ news, u.oneCell' = true
theorem Sl.cells {e : Ctx} {w : World} {As : List Hp} {A : Hp} {size n : Nat} {v : Value} {xs : List Value} (h : Sl A size v n xs) (ho : Owns e w As) (hA : Has e As A) {P : Program} :
    (Builtin.firstCells size n v).run P w = .ok xs.toArray w := by
  obtain ⟨hl, ⟨⟨a0, c0, rfl⟩, rfl⟩ | ⟨g, o, cap, cur, T, fz, rfl, h2, h3, h4⟩⟩ := h
  · have : xs = [] := List.eq_nil_of_length_eq_zero (by simpa using hl)
    subst this
    cases a0 with
    | none => simp [run_firstCells_none]
    | some a => exact run_firstCells_some (P := P) w size 0 a 0 c0 [] (by simp) (fun j v h => by cases h)
  · refine run_firstCells_some (P := P) w size n _ n cap xs hl fun j u hj => ?_
    have hadd : (⟨g, o, none⟩ : Addr).add j = ⟨g, o + j, none⟩ := by unfold Addr.add; split <;> simp_all
    rw [hadd]
    refine ho.has_cell hA h3 ?_
    rw [← h4, List.getElem?_take] at hj
    split at hj
    · simpa using hj
    · cases hj
theorem Sl.src {P : Program} {e : Ctx} {As : List Hp} {A : Hp} {size n : Nat} {v : Value} {xs : List Value} (h : Sl A size v n xs) (hA : Has e As A) (h1 : ∀ u ∈ xs, u.oneCell' = true) : Src P e As size v n xs := by
  obtain ⟨a, cap, rfl⟩ := h.isSlice
  exact ⟨fun w => by simp [Builtin.lenOf], fun w ho => h.cells ho hA, h.1, h1⟩
def bcells (p : Str) : List Value := p.map fun b => .int .u8 (b.toNat : Int)
theorem bcells_one (p : Str) : ∀ u ∈ bcells p, u.oneCell' = true := by
  intro u hu
  obtain ⟨b, _, rfl⟩ := List.mem_map.1 hu
  rfl
theorem bcells_len (p : Str) : (bcells p).length = p.length := by simp [bcells]
theorem S_src {P : Program} {e : Ctx} {As : List Hp} (p : Str) : Src P e As 1 (S p) p.length (bcells p) := by
  refine ⟨fun w => by simp [Builtin.lenOf, size_S], fun w _ => ?_, by simp [bcells], bcells_one p⟩
  have e1 : (⟨p.toArray⟩ : ByteArray).extract 0 p.length = ⟨p.toArray⟩ := by
    apply ByteArray.ext
    rw [ByteArray.data_extract]
    apply Array.ext'
    simp [List.extract_eq_take_drop]
  simp only [Builtin.firstCells, e1, Sem.run_pure]
  congr 1
  apply Array.ext'
  simp [bcells]

def notInt (P : Program) (t : TypeId) : Bool :=
  match P.underlying t with
  | some (.slice _) => true
  | some .string => true
  | _ => false
theorem run_notInt {P : Program} {t : TypeId} (h : notInt P t = true) (w : World) : ∃ d, (underlying t).run P w = .ok d w ∧ (d = .string ∨ ∃ E, d = .slice E) := by
  unfold notInt at h
  split at h <;> try (cases h; done)
  · rename_i E hu
    exact ⟨_, by simp [underlying, hu], .inr ⟨E, rfl⟩⟩
  · rename_i hu
    exact ⟨_, by simp [underlying, hu], .inl rfl⟩

section
variable {P : Program} {e : Ctx} {n : Nat} {l : List (Nat × Value)} {As F : List Hp}
variable {dst : Option Tmp} {ty : TypeId} {pos : String} {after : Array Edge} {g : Option (Nat × Bool)} {v u : Value} {x y : Operand} {t t' : TypeId}

theorem run_append {E size bytes m k : Nat} {z : Value} {xs news : List Value} {A : Hp} {w : World} (ht : slInfo P t = some (E, size, bytes, some z)) (hz : z.cells.size = size) (hn : notInt P t' = true)
    (hw : Owns e w As) (hp : Pick As A F) (hr : Row E size v m xs A) (hs : Src P e As size u k news) (hb : (m + k) * bytes ≤ 140737488355328) (hm : m + k ≤ maxLen) :
    ∃ v' w' A', (Builtin.append_ #[t, t'] ty #[v, u]).run P w = .ok v' w' ∧ Row E size v' (m + k) (xs ++ news) A' ∧ Owns e w' (A' :: F) := by
  obtain ⟨hu, i, hi, rfl, rfl, hiz⟩ := slInfo_spec ht
  have e1 : ∀ w, (underlying t).run P w = .ok (.slice E) w := fun w => by simp [underlying, hu]
  have e2 : ∀ w, (sizeOf E).run P w = .ok i.size w := fun w => by simp [sizeOf, typeInfo, hi]
  have e3 : ∀ w, (typeInfo E).run P w = .ok i w := fun w => by simp [typeInfo, hi]
  have e4 : ∀ w, (zeroValue E).run P w = .ok z w := fun w => by simp [zeroValue, typeInfo, hi, hiz]
  obtain ⟨d', e5, e6⟩ := run_notInt hn w
  obtain ⟨ad, cap, rfl⟩ := hr.sl.isSlice
  have hlen : (xs ++ news).length = (m + k) * i.size := by rw [List.length_append, hr.1, hs.size, Nat.add_mul]
  have hmax : (m + k : Nat) ≤ 9223372036854775807 := by simpa [maxLen] using hm
  by_cases hroom : m + k ≤ cap
  · -- there is room
    rcases hr.2 with ⟨h1, h2, h3⟩ | ⟨g, o, cap', cur, h1, rfl, h3, h4, h5, h6⟩
    · cases h1
      obtain rfl : k = 0 := by omega
      have hnil : news = [] := List.eq_nil_of_length_eq_zero (by simpa using hs.size)
      subst hnil
      refine ⟨.slice none 0 0, w, A, ?_, ?_, hw.pick hp⟩
      · have hc := hs.cells w hw
        rcases e6 with rfl | ⟨E', rfl⟩ <;> simp [Builtin.append_, e1, e2, e5, hs.len, hc]
      · simpa using hr
    · cases h1
      have hg : w.heap[g]? = some (.cells cur E) := (hw.pick hp).own.get g _ (by simp)
      have hcc : (m + k) * i.size ≤ cap * i.size := Nat.mul_le_mul_right _ hroom
      have hst := run_storeCells_at P g (o + m * i.size) E news 0 cur w hg (by rw [hs.size]; rw [Nat.add_mul] at hcc; omega) hs.one
      simp only [Nat.add_zero] at hst
      have hc := hs.cells w hw
      have hadd : ∀ j, (⟨g, o, none⟩ : Addr).add j = ⟨g, o + j, none⟩ := fun j => by unfold Addr.add; split <;> simp_all
      let cur' := (cur.toList.take (o + m * i.size) ++ news ++ cur.toList.drop (o + m * i.size + news.length)).toArray
      refine ⟨.slice (some ⟨g, o, none⟩) (m + k) cap, w.setRow g cur', [(g, .cells cur' E)], ?_, ⟨hlen, .inr ⟨g, o, cap, cur', rfl, rfl, hroom, h4, ?_, ?_⟩⟩, ?_⟩
      · rcases e6 with rfl | ⟨E', rfl⟩ <;> simp [Builtin.append_, e1, e2, e5, hs.len, hc, hroom, hadd, hst, cur']
      · simp only [cur', List.size_toArray, List.length_append, List.length_take, List.length_drop, Array.length_toList, hs.size]
        rw [Nat.add_mul] at hcc
        omega
      · simp only [cur']
        have hms : m * i.size ≤ cap * i.size := Nat.mul_le_mul_right _ h3
        have e7 : (cur.toList.take (o + m * i.size)).drop o = xs := by
          rw [← h6, List.drop_take]; congr 1; omega
        have e8 : (cur.toList.take (o + m * i.size)).length = o + m * i.size := by
          rw [List.length_take, Array.length_toList]; omega
        rw [List.append_assoc, List.drop_append_of_le_length (by omega), e7, ← List.append_assoc, ← hlen]
        exact List.take_left
      · have hw' := hw.pick hp
        exact Owns.put hw' (setRow_heap w g cur _ E _ hg) (fun c hc => setRow_other w g c _ hc) rfl rfl rfl
  · -- a new array
    have hfo : (Builtin.firstCells i.size m (.slice ad m cap)).run P w.drew = .ok xs.toArray w.drew := hr.sl.cells (hw.pick hp).drew (.mem (by simp))
    have hfn := hs.cells w.drew hw.drew
    have h63' : ¬ (9223372036854775807 < ((m : Int) + (k : Int))) := by omega
    have h48' : ¬ (281474976710656 < Builtin.nextslicecap (m + k) cap * i.bytes) := by
      have := growslice_fits (old := cap) (by omega) hb; omega
    have hge := grownCap_ge w (m + k) cap E
    have hcm : grownCap w (m + k) cap E ≤ maxLen := grownCap_le_maxLen w (m + k) cap E hm
    let cur' := xs.toArray ++ news.toArray ++ Builtin.zeroCells z.cells (grownCap w (m + k) cap E - (m + k))
    have hsz : cur'.size = grownCap w (m + k) cap E * i.size := by
      simp only [cur', Array.size_append, List.size_toArray, size_zeroCells, hz, hr.1, hs.size, ← Nat.add_mul]
      congr 1; omega
    refine ⟨.slice (some ⟨w.heap.size, 0, none⟩) (m + k) (grownCap w (m + k) cap E), w.drew.alloc (.cells cur' E), [(w.heap.size, .cells cur' E)], ?_,
      ⟨hlen, .inr ⟨_, 0, _, cur', rfl, rfl, hge, hcm, by omega, ?_⟩⟩, ?_⟩
    · rcases e6 with rfl | ⟨E', rfl⟩ <;> simp [Builtin.append_, e1, e2, e3, e4, e5, hs.len, hroom, h63', h48', Question.forced, hfo, hfn, newRow, cur', grownCap]
    · simp only [cur', List.drop_zero, Array.toList_append, List.append_assoc]
      rw [← List.append_assoc, ← hlen]
      exact List.take_left
    · exact ((hw.pick hp).tail.drew.alloc (.cells cur' E))
theorem opE_append {E size bytes m k : Nat} {z : Value} {xs news : List Value} {A : Hp} (ht : slInfo P t = some (E, size, bytes, some z)) (hz : z.cells.size = size) (hn : notInt P t' = true)
    (hx : ev l x = some v) (hy : ev l y = some u) (hp : Pick As A F) (hr : Row E size v m xs A) (hs : Src P e As size u k news) (hb : (m + k) * bytes ≤ 140737488355328) (hm : m + k ≤ maxLen) :
    OpE P e n ⟨dst, .call ⟨.builtin .append, #[x, y], #[t, t']⟩, ty, pos, after, g⟩ l As (fun v' Bs => ∃ A', Row E size v' (m + k) (xs ++ news) A' ∧ Bs = A' :: F) := fun a w h => by
  obtain ⟨v', w', A', hrun, hrow, ho⟩ := run_append (ty := ty) ht hz hn h.owns hp hr hs hb hm
  refine ⟨v', w', A' :: F, ?_, ⟨A', hrow, rfl⟩, ho⟩
  simp only [execOp, resolve, invoke, builtin, Sem.run_bind, Sem.run_pure, Result.andThen_ok, List.map_toArray, List.map_cons, List.map_nil, h.eval hx, h.eval hy, hrun]
end
end Go.W

namespace Go.W
open Go.RowKit
/-! ### A region that draws its order -/
section
variable {P : Program} {ops : Array Oper} {Q : Exit → Act → World → Prop} {S0 S : World → Prop} {T U : List Nat}

/-- May number i come up ahead of one of T (they look at the heap)? -/
def mayLead (ops : Array Oper) (T : List Nat) (i : Nat) : Bool :=
  match ops[i]? with
  | none => true
  | some o => T.any fun t => t != i && !(o.after.any fun e => Region.binds .any e && e.on == t)

/-- What is asked of the world behind number i. -/
def After (ops : Array Oper) (S0 S : World → Prop) (T U : List Nat) (i : Nat) (w w' : World) : Prop :=
  if T.contains i || U.contains i then w' = w else S0 w' ∧ (mayLead ops T i = true → S w')

def wpAnyG (P : Program) (ops : Array Oper) (Q : Exit → Act → World → Prop) (S0 S : World → Prop) (T U : List Nat) : Nat → Array Bool → Act → World → Prop
  | 0, listed, a, w => Region.ready .any ops listed = [] ∧ Q .normal a w
  | fuel + 1, listed, a, w =>
    (Region.ready .any ops listed = [] → Q .normal a w) ∧
    ∀ i ∈ Region.ready .any ops listed, wpOp P ops Q i (fun a' w' => After ops S0 S T U i w w' ∧ wpAnyG P ops Q S0 S T U fuel (listed.setIfInBounds i true) a' w') a w

theorem wpAny_of_G : ∀ (fuel : Nat) (listed : Array Bool) (a : Act) (w : World), wpAnyG P ops Q S0 S T U fuel listed a w → wpAny P .any ops Q fuel listed a w
  | 0, _, _, _, h => h
  | fuel + 1, _, _, _, h => ⟨h.1, fun i hi => wpOp_mono (fun a' w' h' => wpAny_of_G fuel _ a' w' h'.2) (h.2 i hi)⟩

theorem wpAnyG_first {i : Nat} {oi : Oper} {v : Value} {S1 : World → Prop} (hTU : (T.contains i || U.contains i) = true) (hS1 : ∀ w, S0 w → (T.contains i = true → S w) → S1 w)
    (hi : ops[i]? = some oi) (hsel : ∀ (j : Nat) (o : Oper) cs b, ops[j]? = some o → o.op ≠ .select cs b)
    (hQ : ∀ c a w, Q (.panic c) (a.put oi.dst v) w → Q (.panic c) a w) :
    ∀ (fuel : Nat) (listed : Array Bool) (a : Act) (w : World),
      (∀ j oj, ops[j]? = some oj → j ≠ i → listed.getD j true = false → (∀ e ∈ oj.after, Region.binds .any e = true → e.on ≠ i) → oi.apart ops oj = true) →
      i ∈ Region.ready .any ops listed → YieldsIf P ops S1 oi v a → S0 w → (T.contains i = true → S w) →
      wpAnyG P ops Q S0 S T U fuel (listed.setIfInBounds i true) (a.put oi.dst v) w → wpAnyG P ops Q S0 S T U (fuel + 1) listed a w := by
  have self : ∀ w, After ops S0 S T U i w w := fun w => by unfold After; rw [if_pos hTU]
  intro fuel
  induction fuel with
  | zero =>
    intro listed a w _ hr hy h0 hS H
    refine ⟨fun h => (by rw [h] at hr; cases hr), fun j hj => ?_⟩
    by_cases hji : j = i
    · subst hji; exact hy.wpOp hi (hS1 w h0 hS) ⟨self w, H⟩
    · have := ready_mono hj hji
      rw [H.1] at this
      cases this
  | succ fuel ih =>
    intro listed a w hfree hr hy h0 hS H
    refine ⟨fun h => (by rw [h] at hr; cases hr), fun j hj => ?_⟩
    by_cases hji : j = i
    · subst hji; exact hy.wpOp hi (hS1 w h0 hS) ⟨self w, H⟩
    · have h1 := H.2 j (ready_mono hj hji)
      obtain ⟨hjun, oj, hoj, hall⟩ := mem_ready.1 hj
      have hnot : ∀ e ∈ oj.after, Region.binds .any e = true → e.on ≠ i := fun e he hb heq => by
        have h1 := hall e he hb
        have h0 := (mem_ready.1 hr).1
        rw [heq] at h1
        rcases Nat.lt_or_ge i listed.size with h' | h'
        · simp [h'] at h0 h1; rw [h0] at h1; cases h1
        · simp [Array.getElem?_eq_none h'] at h1
      have hlead : T.contains i = true → mayLead ops T j = true := fun hT => by
        simp only [mayLead, hoj, List.any_eq_true]
        refine ⟨i, by simpa using hT, ?_⟩
        simp only [Bool.and_eq_true, bne_iff_ne, ne_eq, Bool.not_eq_true', Array.any_eq_false]
        refine ⟨Ne.symm hji, fun k hk => ?_⟩
        have := hnot oj.after[k] (by simp)
        cases hb : Region.binds .any oj.after[k] with
        | false => simp
        | true => simp [this hb]
      have h2 := wpOp_putIf hoj (hfree j oj hoj hji hjun hnot) (fun cs b => hsel i oi cs b hi) (fun cs b => hsel j oj cs b hoj) hQ hy h1
      have hfree' : ∀ k ok, ops[k]? = some ok → k ≠ i → (listed.setIfInBounds j true).getD k true = false →
          (∀ e ∈ ok.after, Region.binds .any e = true → e.on ≠ i) → oi.apart ops ok = true := fun k ok hk hki hun hno => by
        refine hfree k ok hk hki ?_ hno
        by_cases hjk : j = k
        · subst hjk; exact hjun
        · rw [getD_set_ne true hjk] at hun; exact hun
      refine wpOp_mono (fun a' w' h3 => ⟨h3.2.1, ?_⟩) h2
      have hA := h3.2.1
      have hw : S0 w' ∧ (T.contains i = true → S w') := by
        unfold After at hA
        split at hA
        · subst hA; exact ⟨h0, hS⟩
        · exact ⟨hA.1, fun hT => hA.2 (hlead hT)⟩
      refine ih (listed.setIfInBounds j true) a' w' hfree' (ready_mono hr (Ne.symm hji)) h3.1 hw.1 hw.2 ?_
      rw [Array.setIfInBounds_comm _ _ hji]
      exact h3.2.2

/-- The order in which the proof takes the operations: those of T and U when they are free, the others when nothing else can come. -/
def planOk (ops : Array Oper) (T U : List Nat) (E : Array Bool → Bool) : Array Bool → List Nat → Bool
  | listed, [] => E listed
  | listed, i :: is => (if T.contains i || U.contains i then (Region.ready .any ops listed).contains i && Region.free .any ops listed i else Region.ready .any ops listed == [i]) && planOk ops T U E (listed.setIfInBounds i true) is
end

section
variable (P : Program) (e : Ctx) (n : Nat) (ops : Array Oper) (Q : Exit → Act → World → Prop) (T U : List Nat) (As1 : List Hp) (E : Array Bool → Bool) (m : Nat)
/-- Nothing is left. -/
def allDone (ops : Array Oper) (listed : Array Bool) : Bool := (Region.ready .any ops listed).isEmpty
/-- The rest of a region that draws: the places, and the operations that stand there. -/
def AnyJ (is : List Nat) (rest : List Oper) (l : List (Nat × Value)) (As : List Hp) : Prop :=
  ∀ listed, Region.noSelect ops = true → planOk ops T U E listed is = true → is.map (ops[·]?) = rest.map some → ∀ a w, St e n l As a w →
    wpAnyG P ops Q (fun w => Owns e w []) (fun w => Owns e w As1) T U (m + is.length) listed a w
end
section
variable {P : Program} {e : Ctx} {n : Nat} {opl : List Oper} {ops : Array Oper} {Q : Exit → Act → World → Prop} {T U : List Nat} {E : Array Bool → Bool} {m : Nat} {As1 As Bs : List Hp} {is : List Nat} {rest : List Oper} {l : List (Nat × Value)} {i : Nat}
variable {dst : Option Tmp} {d : Tmp} {op : Op} {ty : TypeId} {pos : String} {after : Array Edge} {g : Option (Nat × Bool)} {v : Value}

theorem Owns.none {w : World} (h : Owns e w As) : Owns e w [] := h.sub (by simp)
/-- The operations at these places. -/
def pickOps (opl : List Oper) : List Nat → List Oper
  | [] => []
  | i :: is => opl.getD i default :: pickOps opl is
theorem pickOps_eq (opl : List Oper) : ∀ is : List Nat, (is.all fun i => Nat.blt i opl.length) = true → is.map (opl.toArray[·]?) = (pickOps opl is).map some
  | [], _ => rfl
  | i :: is, h => by
    simp only [List.all_cons, Bool.and_eq_true] at h
    have hi : i < opl.length := Nat.blt_eq.mp h.1
    simp only [List.map_cons, pickOps, pickOps_eq opl is h.2]
    congr 1
    simp [List.getD_eq_getElem?_getD, hi]
theorem Cod.draw {id : Nat} (T U : List Nat) (As1 : List Hp) (is : List Nat) (hm : P.follows .mixedOrders = true)
    (hp : (Region.noSelect opl.toArray && (is.length == opl.toArray.size) && planOk opl.toArray T U (allDone opl.toArray) (Array.replicate opl.toArray.size false) is && is.all fun i => Nat.blt i opl.length) = true)
    (h : AnyJ P e n opl.toArray Q T U As1 (allDone opl.toArray) 0 is (pickOps opl is) l As) : Cod P e n Q (.region id opl.toArray true) l As := by
  intro a w hs
  simp only [Bool.and_eq_true, beq_iff_eq] at hp
  obtain ⟨⟨⟨h1, h2⟩, h3⟩, h4⟩ := hp
  have hr := pickOps_eq opl is h4
  refine wp_region_any hm (wpAny_of_G (S0 := fun w => Owns e w []) (S := fun w => Owns e w As1) (T := T) (U := U) _ _ _ _ ?_)
  rw [← h2]
  have := h (Array.replicate opl.toArray.size false) h1 h3 hr a w.drew (hs.world hs.owns.drew)
  rw [Nat.zero_add] at this
  rw [h2] at this ⊢
  exact this

theorem AnyJ.quiet {u : Value} {As2 : List Hp} (hTU : (T.contains i || U.contains i) = true) (hy : ∀ a w, St e n l As a w → (∀ w', Owns e w' As2 → YieldsIf P ops (fun w => Owns e w As2) ⟨some d, op, ty, pos, after, g⟩ u a))
    (h2 : ∀ w, Owns e w [] → (T.contains i = true → Owns e w As1) → Owns e w As2)
    (hd : Nat.blt d n = true)
    (hQ : ∀ c a w, Q (.panic c) (a.put (some d) u) w → Q (.panic c) a w) (hsub : T.contains i = true → ∀ w, Owns e w As → Owns e w As1)
    (k : AnyJ P e n ops Q T U As1 E m is rest ((d, u) :: l) As) : AnyJ P e n ops Q T U As1 E m (i :: is) (⟨some d, op, ty, pos, after, g⟩ :: rest) l As := by
  intro listed hn hp hm a w hs
  simp only [planOk, hTU, if_true, Bool.and_eq_true] at hp
  obtain ⟨⟨hr, hf⟩, hp⟩ := hp
  simp only [List.map_cons, List.cons.injEq] at hm
  obtain ⟨ho, hm⟩ := hm
  have h2' := h2 w hs.owns.none (fun hT => hsub hT w hs.owns)
  refine wpAnyG_first (oi := ⟨some d, op, ty, pos, after, g⟩) (v := u) (S1 := fun w => Owns e w As2) hTU h2 ho (Region.noSelect_spec hn) hQ _ listed a w (Region.free_spec ho hf) (by simpa using hr) (hy a w hs w h2') hs.owns.none (fun hT => hsub hT w hs.owns) ?_
  exact k _ hn hp hm _ _ (hs.put (d := some d) (fun t ht => by cases ht; exact Nat.blt_eq.mp hd))
/-- One that looks at the heap. -/
theorem AnyJ.val (hT : T.contains i = true) (hg : wantedL ops l g = some true) (hv : OpV P e n ⟨some d, op, ty, pos, after, g⟩ l As1 v) (hd : Nat.blt d n = true)
    (hQ : ∀ c a w, Q (.panic c) (a.put (some d) v) w → Q (.panic c) a w) (hsub : ∀ w, Owns e w As → Owns e w As1)
    (k : AnyJ P e n ops Q T U As1 E m is rest ((d, v) :: l) As) : AnyJ P e n ops Q T U As1 E m (i :: is) (⟨some d, op, ty, pos, after, g⟩ :: rest) l As :=
  AnyJ.quiet (As2 := As1) (by simp only [hT, Bool.true_or]) (fun a _ hs _ _ => .inl ⟨hs.wanted hg, fun w' hw' => hv a w' ⟨hs.size, hs.defers, hs.get, hw'⟩⟩) (fun _ _ h => h hT) hd hQ (fun _ => hsub) k
/-- One that doesn't. -/
theorem AnyJ.valU (hU : U.contains i = true) (hT : T.contains i = false) (hg : wantedL ops l g = some true) (hv : OpV P e n ⟨some d, op, ty, pos, after, g⟩ l [] v) (hd : Nat.blt d n = true)
    (hQ : ∀ c a w, Q (.panic c) (a.put (some d) v) w → Q (.panic c) a w)
    (k : AnyJ P e n ops Q T U As1 E m is rest ((d, v) :: l) As) : AnyJ P e n ops Q T U As1 E m (i :: is) (⟨some d, op, ty, pos, after, g⟩ :: rest) l As :=
  AnyJ.quiet (As2 := []) (by simp only [hU, Bool.or_true]) (fun a _ hs _ _ => .inl ⟨hs.wanted hg, fun w' hw' => hv a w' ⟨hs.size, hs.defers, hs.get, hw'⟩⟩) (fun _ h _ => h) hd hQ (fun h => by rw [hT] at h; cases h) k
theorem AnyJ.skip (hTU : (T.contains i || U.contains i) = true) (hg : wantedL ops l g = some false) (hd : Nat.blt d n = true)
    (hQ : ∀ c a w, Q (.panic c) (a.put (some d) undef) w → Q (.panic c) a w) (hsub : T.contains i = true → ∀ w, Owns e w As → Owns e w As1)
    (k : AnyJ P e n ops Q T U As1 E m is rest ((d, undef) :: l) As) : AnyJ P e n ops Q T U As1 E m (i :: is) (⟨some d, op, ty, pos, after, g⟩ :: rest) l As :=
  AnyJ.quiet (As2 := []) hTU (fun _ _ hs _ _ => .inr ⟨hs.wanted hg, rfl⟩) (fun _ h _ => h) hd hQ hsub k
/-- One that nothing else can come ahead of. -/
theorem AnyJ.one {o : Oper} (hT : (T.contains i || U.contains i) = false) (hg : wantedL ops l o.guard = some true)
    (h : ∀ a w, St e n l As a w → o.wp P a w (fun a' w' => (Owns e w' [] ∧ (mayLead ops T i = true → Owns e w' As1)) ∧ ∀ listed, Region.noSelect ops = true → planOk ops T U E listed is = true → is.map (ops[·]?) = rest.map some →
      wpAnyG P ops Q (fun w => Owns e w []) (fun w => Owns e w As1) T U (m + is.length) listed a' w') Q) :
    AnyJ P e n ops Q T U As1 E m (i :: is) (o :: rest) l As := by
  intro listed hn hp hm a w hs
  simp only [planOk, hT, Bool.false_eq_true, if_false, Bool.and_eq_true, beq_iff_eq] at hp
  obtain ⟨hr, hp⟩ := hp
  simp only [List.map_cons, List.cons.injEq] at hm
  obtain ⟨ho, hm⟩ := hm
  refine ⟨fun h0 => (by rw [h0] at hr; cases hr), fun j hj => ?_⟩
  rw [hr] at hj
  obtain rfl : j = i := by simpa using hj
  unfold wpOp
  simp only [ho, hs.wanted hg, if_true]
  refine .inl (Oper.wp_mono (fun a' w' hk => ⟨?_, hk.2 _ hn hp hm⟩) (h a w hs))
  unfold After
  rw [hT, if_neg (by simp)]
  exact hk.1
theorem AnyJ.eff {post : Value → List Hp → Prop} (hT : (T.contains i || U.contains i) = false) (hg : wantedL ops l g = some true) (h : OpE P e n ⟨some d, op, ty, pos, after, g⟩ l As post) (hd : Nat.blt d n = true)
    (k : ∀ v Bs, post v Bs → (mayLead ops T i = true → ∀ w, Owns e w Bs → Owns e w As1) ∧ AnyJ P e n ops Q T U As1 E m is rest ((d, v) :: l) Bs) : AnyJ P e n ops Q T U As1 E m (i :: is) (⟨some d, op, ty, pos, after, g⟩ :: rest) l As :=
  AnyJ.one hT hg fun a w hs => by
    obtain ⟨v, w', Bs, hr, hp, ho⟩ := h a w hs
    unfold Oper.wp
    rw [hr]
    obtain ⟨k1, k2⟩ := k v Bs hp
    exact ⟨⟨ho.none, fun hl => k1 hl w' ho⟩, fun listed h1 h2 h3 => k2 listed h1 h2 h3 _ _ ((hs.world ho).put (d := some d) (fun t ht => by cases ht; exact Nat.blt_eq.mp hd))⟩
theorem AnyJ.effN {post : Value → List Hp → Prop} (hT : (T.contains i || U.contains i) = false) (hg : wantedL ops l g = some true) (h : OpE P e n ⟨none, op, ty, pos, after, g⟩ l As post)
    (k : ∀ v Bs, post v Bs → (mayLead ops T i = true → ∀ w, Owns e w Bs → Owns e w As1) ∧ AnyJ P e n ops Q T U As1 E m is rest l Bs) : AnyJ P e n ops Q T U As1 E m (i :: is) (⟨none, op, ty, pos, after, g⟩ :: rest) l As :=
  AnyJ.one hT hg fun a w hs => by
    obtain ⟨v, w', Bs, hr, hp, ho⟩ := h a w hs
    unfold Oper.wp
    rw [hr]
    obtain ⟨k1, k2⟩ := k v Bs hp
    exact ⟨⟨ho.none, fun hl => k1 hl w' ho⟩, fun listed h1 h2 h3 => k2 listed h1 h2 h3 _ _ (hs.world ho)⟩
theorem AnyJ.st (hT : (T.contains i || U.contains i) = false) (hg : wantedL ops l g = some true) (h : OpS P e n ⟨none, op, ty, pos, after, g⟩ l As Bs)
    (k1 : mayLead ops T i = true → ∀ w, Owns e w Bs → Owns e w As1) (k : AnyJ P e n ops Q T U As1 E m is rest l Bs) : AnyJ P e n ops Q T U As1 E m (i :: is) (⟨none, op, ty, pos, after, g⟩ :: rest) l As :=
  AnyJ.one hT hg fun a w hs => by
    obtain ⟨w', hr, ho⟩ := h a w hs
    unfold Oper.wp
    rw [hr]
    exact ⟨⟨ho.none, fun hl => k1 hl w' ho⟩, fun listed h1 h2 h3 => k listed h1 h2 h3 _ _ (hs.world ho)⟩
theorem AnyJ.call {post : Value → List Hp → Prop} (hT : (T.contains i || U.contains i) = false) (hg : wantedL ops l g = some true) (h : OpC P e n ⟨dst, op, ty, pos, after, g⟩ l As post) (hd : (match dst with | some d => Nat.blt d n | none => true) = true)
    (k : ∀ v Bs, post v Bs → (mayLead ops T i = true → ∀ w, Owns e w Bs → Owns e w As1) ∧ AnyJ P e n ops Q T U As1 E m is rest (putL l dst v) Bs) : AnyJ P e n ops Q T U As1 E m (i :: is) (⟨dst, op, ty, pos, after, g⟩ :: rest) l As :=
  AnyJ.one hT hg fun a w hs => by
    obtain ⟨f, args, hr, hc⟩ := h a w hs
    unfold Oper.wp
    rw [hr]
    refine Calls.mono hc ?_
    intro en w' hR
    cases en with
    | returned v =>
      obtain ⟨Bs, hp, ho⟩ := hR
      obtain ⟨k1, k2⟩ := k v Bs hp
      exact ⟨⟨ho.none, fun hl => k1 hl w' ho⟩, fun listed h1 h2 h3 => k2 listed h1 h2 h3 _ _ ((hs.world ho).put (fun t ht => by subst ht; exact Nat.blt_eq.mp hd))⟩
    | panicked c => exact hR.elim
    | outgrown => exact hR.elim
theorem AnyJ.nil (k : Ex e n Q .normal l As) : AnyJ P e n ops Q T U As1 (allDone ops) 0 [] [] l As := by
  intro listed _ hp _ a w hs
  simp only [planOk, allDone, List.isEmpty_iff] at hp
  exact ⟨hp, k a w hs⟩
end

theorem lead_no {ops : Array Oper} {T : List Nat} {i : Nat} {X : Prop} (h : mayLead ops T i = false) : mayLead ops T i = true → X := fun h' => by rw [h] at h'; cases h'
/-- Parts of a list, in another order; what isn't named is dropped. -/
inductive Sub : List Hp → List Hp → Prop
  | refl {As : List Hp} : Sub As As
  | nil {As : List Hp} : Sub As []
  | cons {A : Hp} {As F Bs : List Hp} (p : Pick As A F) (h : Sub F Bs) : Sub As (A :: Bs)
  | drop {A : Hp} {As Bs : List Hp} (h : Sub As Bs) : Sub (A :: As) Bs
  | emp {As Bs : List Hp} (h : Sub As Bs) : Sub As ([] :: Bs)
  | app {A B : Hp} {As F Bs : List Hp} (p : Pick As A F) (h : Sub F (B :: Bs)) : Sub As ((A ++ B) :: Bs)
  | asc {A B C : Hp} {As Bs : List Hp} (h : Sub As ((A ++ (B ++ C)) :: Bs)) : Sub As (((A ++ B) ++ C) :: Bs)
  | ascc {x : Nat × Obj} {B C : Hp} {As Bs : List Hp} (h : Sub As ((x :: (B ++ C)) :: Bs)) : Sub As (((x :: B) ++ C) :: Bs)
  | con {x : Nat × Obj} {B : Hp} {As F Bs : List Hp} (p : Pick As [x] F) (h : Sub F (B :: Bs)) : Sub As ((x :: B) :: Bs)
theorem Owns.subs {e : Ctx} {w : World} {As Bs : List Hp} (h : Owns e w As) (s : Sub As Bs) : Owns e w Bs := by
  have key : ∃ F : List Hp, As.flatten.Perm (Bs ++ F).flatten := by
    clear h
    induction s with
    | refl => exact ⟨[], by simp⟩
    | nil => exact ⟨_, List.Perm.refl _⟩
    | cons p _ ih =>
      obtain ⟨F, ih⟩ := ih
      refine ⟨F, p.perm.flatten.trans ?_⟩
      simp only [List.flatten_cons, List.cons_append]
      exact ih.append_left _
    | @drop A _ _ _ ih =>
      obtain ⟨F, ih⟩ := ih
      refine ⟨A :: F, ?_⟩
      simp only [List.flatten_append, List.flatten_cons] at ih ⊢
      exact (ih.append_left A).trans (by
        rw [← List.append_assoc, ← List.append_assoc]
        exact List.perm_append_comm.append_right _)
    | emp _ ih => obtain ⟨F, ih⟩ := ih; exact ⟨F, by simpa using ih⟩
    | app p _ ih =>
      obtain ⟨F, ih⟩ := ih
      refine ⟨F, p.perm.flatten.trans ?_⟩
      simp only [List.flatten_cons, List.cons_append, List.append_assoc] at ih ⊢
      exact ih.append_left _
    | asc _ ih => obtain ⟨F, ih⟩ := ih; exact ⟨F, by simpa using ih⟩
    | ascc _ ih => obtain ⟨F, ih⟩ := ih; exact ⟨F, by simpa using ih⟩
    | con p _ ih =>
      obtain ⟨F, ih⟩ := ih
      refine ⟨F, p.perm.flatten.trans ?_⟩
      simp only [List.flatten_cons, List.cons_append, List.nil_append] at ih ⊢
      exact ih.cons _
  obtain ⟨F, hF⟩ := key
  refine (h.perm hF).sub ?_
  simp
end Go.W

namespace Go.W
open Go.RowKit
section
variable {P : Program} {e : Ctx} {n : Nat} {ops : Array Oper} {Q : Exit → Act → World → Prop} {T U : List Nat} {E : Array Bool → Bool} {m : Nat} {As1 As Bs : List Hp} {is : List Nat} {rest : List Oper} {l : List (Nat × Value)}
variable {dst : Option Tmp} {ty : TypeId} {pos : String} {after : Array Edge} {g : Option (Nat × Bool)} {v u : Value} {x y : Operand} {t : TypeId}

theorem opV_or {c : Operand} {b b' : Bool} (hc : ev l c = some (.bool b)) (hy : ev l y = some (.bool b')) : OpV P e n ⟨dst, .pick c (.const (.bool true)) y, ty, pos, after, g⟩ l As (.bool (b || b')) := fun a w h => by
  rw [opV_pick (P := P) (As := As) hc (x := .const (.bool true)) rfl hy a w h]
  cases b <;> rfl
theorem opV_and {c : Operand} {b b' : Bool} (hc : ev l c = some (.bool b)) (hx : ev l x = some (.bool b')) : OpV P e n ⟨dst, .pick c x (.const (.bool false)), ty, pos, after, g⟩ l As (.bool (b && b')) := fun a w h => by
  rw [opV_pick (P := P) (As := As) hc hx (y := .const (.bool false)) rfl a w h]
  cases b <;> rfl
theorem opV_makeFunc {f : Nat} {first cap : List Operand} {vs ws : List Value} (h1 : evs l first = some vs) (h2 : evs l cap = some ws) :
    OpV P e n ⟨dst, .makeFunc (.func f) first.toArray cap.toArray, ty, pos, after, g⟩ l As (.func (.func f) vs.toArray ws.toArray) := fun a w h => by
  simp [execOp, Instr.makeFunc, h.evals h1, h.evals h2]
/-- A bool in a slot is parted. -/
theorem Ops.cases (k : Nat) {b : Bool} (hl : lk l k = some (.bool b)) (ht : b = true → Ops P e n ops Q rest ((k, .bool true) :: l) As) (hf : b = false → Ops P e n ops Q rest ((k, .bool false) :: l) As) : Ops P e n ops Q rest l As := by
  intro a w hs
  have key : ∀ c, b = c → St e n ((k, .bool c) :: l) As a w := fun c hc => by
    subst hc
    refine ⟨hs.size, hs.defers, fun t v ht => ?_, hs.owns⟩
    simp only [lk] at ht
    cases hb : Nat.beq k t with
    | true =>
      rw [hb] at ht
      simp only [cond_true, Option.some.injEq] at ht
      obtain rfl : k = t := Nat.eq_of_beq_eq_true hb
      subst ht
      exact hs.get _ _ hl
    | false => rw [hb] at ht; exact hs.get _ _ ht
  cases hb : b with
  | true => exact ht hb a w (key true hb)
  | false => exact hf hb a w (key false hb)
theorem AnyJ.cases (k : Nat) {b : Bool} (hl : lk l k = some (.bool b)) (ht : b = true → AnyJ P e n ops Q T U As1 E m is rest ((k, .bool true) :: l) As) (hf : b = false → AnyJ P e n ops Q T U As1 E m is rest ((k, .bool false) :: l) As) : AnyJ P e n ops Q T U As1 E m is rest l As := by
  intro listed h1 h2 h3 a w hs
  have key : ∀ c, b = c → St e n ((k, .bool c) :: l) As a w := fun c hc => by
    subst hc
    refine ⟨hs.size, hs.defers, fun t v ht => ?_, hs.owns⟩
    simp only [lk] at ht
    cases hb : Nat.beq k t with
    | true =>
      rw [hb] at ht
      simp only [cond_true, Option.some.injEq] at ht
      obtain rfl : k = t := Nat.eq_of_beq_eq_true hb
      subst ht
      exact hs.get _ _ hl
    | false => rw [hb] at ht; exact hs.get _ _ ht
  cases hb : b with
  | true => exact ht hb listed h1 h2 h3 a w (key true hb)
  | false => exact hf hb listed h1 h2 h3 a w (key false hb)
end
end Go.W

namespace Go.W
section
variable {P : Program} {e : Ctx} {n : Nat} {l : List (Nat × Value)} {As : List Hp}
variable {dst : Option Tmp} {ty : TypeId} {pos : String} {after : Array Edge} {g : Option (Nat × Bool)} {v : Value} {x y : Operand} {t u : TypeId} {k : IntKind} {a b : Int}
theorem opV_shr {s : Nat} {kd : IntKind} (hx : ev l x = some (.int k a)) (hy : ev l y = some (.int kd (s : Int))) (hs : s ≤ k.bits) : OpV P e n ⟨dst, .binOp .shr t x y u, ty, pos, after, g⟩ l As (.int k (a.fdiv (2 ^ s))) := fun ac w h => by
  simp only [execOp, h.eval hx, h.eval hy, eqGuard, Sem.run_bind, binOp, Op.shift]
  have h0 : ¬ ((s : Int) < 0) := by omega
  simp [h0, Nat.min_eq_left hs]
theorem opV_shl {s : Nat} {kd : IntKind} (hx : ev l x = some (.int k a)) (hy : ev l y = some (.int kd (s : Int))) (hs : s ≤ k.bits) : OpV P e n ⟨dst, .binOp .shl t x y u, ty, pos, after, g⟩ l As (.int k (k.wrap (a * 2 ^ s))) := fun ac w h => by
  simp only [execOp, h.eval hx, h.eval hy, eqGuard, Sem.run_bind, binOp, Op.shift]
  have h0 : ¬ ((s : Int) < 0) := by omega
  simp [h0, Nat.min_eq_left hs]
/-- The bits' operations, on 64 bits of a signed number and on unsigned ones, as the model has them. -/
def bitop (op : BinOp) (k : IntKind) (a b : Int) : Int :=
  let x := BitVec.ofInt k.bits a
  let y := BitVec.ofInt k.bits b
  match op with
  | .and => k.wrap (x &&& y).toNat
  | .or => k.wrap (x ||| y).toNat
  | .xor => k.wrap (x ^^^ y).toNat
  | .andNot => k.wrap (x &&& ~~~y).toNat
  | _ => 0
theorem opV_and' (hx : ev l x = some (.int k a)) (hy : ev l y = some (.int k b)) : OpV P e n ⟨dst, .binOp .and t x y u, ty, pos, after, g⟩ l As (.int k (bitop .and k a b)) := fun ac w h => by
  simp [execOp, h.eval hx, h.eval hy, run_eqGuard_int, binOp, Op.intBits, bitop]
theorem opV_or' (hx : ev l x = some (.int k a)) (hy : ev l y = some (.int k b)) : OpV P e n ⟨dst, .binOp .or t x y u, ty, pos, after, g⟩ l As (.int k (bitop .or k a b)) := fun ac w h => by
  simp [execOp, h.eval hx, h.eval hy, run_eqGuard_int, binOp, Op.intBits, bitop]
theorem opV_xor (hx : ev l x = some (.int k a)) (hy : ev l y = some (.int k b)) : OpV P e n ⟨dst, .binOp .xor t x y u, ty, pos, after, g⟩ l As (.int k (bitop .xor k a b)) := fun ac w h => by
  simp [execOp, h.eval hx, h.eval hy, run_eqGuard_int, binOp, Op.intBits, bitop]
theorem opV_rem (hx : ev l x = some (.int k a)) (hy : ev l y = some (.int k b)) (h0 : b ≠ 0) : OpV P e n ⟨dst, .binOp .rem t x y u, ty, pos, after, g⟩ l As (.int k (a.tmod b)) := fun ac w h => by
  simp [execOp, h.eval hx, h.eval hy, run_eqGuard_int, binOp, Op.intDiv, h0]
theorem opV_max (hx : ev l x = some (.int k a)) (hy : ev l y = some (.int k b)) {tys : Array TypeId} : OpV P e n ⟨dst, .call ⟨.builtin .max, #[x, y], tys⟩, ty, pos, after, g⟩ l As (.int k (max a b)) := fun ac w h => by
  have e1 : (if b > a then b else a) = max a b := by omega
  simp [execOp, resolve, invoke, builtin, h.eval hx, h.eval hy, Builtin.max_, Builtin.max2, e1]
theorem opV_min (hx : ev l x = some (.int k a)) (hy : ev l y = some (.int k b)) {tys : Array TypeId} : OpV P e n ⟨dst, .call ⟨.builtin .min, #[x, y], tys⟩, ty, pos, after, g⟩ l As (.int k (min a b)) := fun ac w h => by
  simp [execOp, resolve, invoke, builtin, h.eval hx, h.eval hy, Builtin.min_, Builtin.min2]
  split <;> omega
end
end Go.W

namespace Go.W
/-- The one new element of an append. -/
theorem one_src {P : Program} {e : Ctx} {As : List Hp} {b E size : Nat} {cs : Array Value} (hA : Has e As [(b, .cells cs E)]) (hs : cs.size = size) (h1 : ∀ u ∈ cs.toList, u.oneCell' = true) :
    Src P e As size (.slice (some ⟨b, 0, none⟩) 1 1) 1 cs.toList :=
  (Row.made (n := 1) (by simpa using hs) (by simp [maxLen])).sl.src hA h1
end Go.W

