/- slices.DeleteFunc at []int; Collect. -/
import Derived.Test.YteejmoldhbfdnaaGreatDoorLaw14
set_option maxRecDepth 8000
namespace Go.Proofs.YteejmoldhbfdnaaGreatDoor.Coll
open Go.W Go.RowKit Lib1 Oct OctR Seal Disk Disk2 Wal Num Wal2 Wal3 Bod Bod2 Bod3 Bod4 Law14
namespace Fx
theorem cal_162 : callable Tryz.prog 162 = true := by kernel_rfl
theorem cal_90 : callable Tryz.prog 90 = true := by kernel_rfl
theorem fld_129_1 : fieldOff Tryz.prog 129 1 = some 1 := by kernel_rfl
theorem map_126 : mapInfo Tryz.prog 126 = some (.int .i64, (.pointer none)) := by kernel_rfl
theorem ptr_130 : ptrT Tryz.prog 130 = true := by kernel_rfl
theorem scal_126 : scalarB Tryz.prog 126 = true := by kernel_rfl
theorem scal_25 : scalarB Tryz.prog 25 = true := by kernel_rfl
theorem scal_3 : scalarB Tryz.prog 3 = true := by kernel_rfl
theorem sl_77 : slInfo Tryz.prog 77 = some (3, 1, 8, some (.int .i64 0)) := by kernel_rfl
theorem sz1_3 : (Tryz.prog.info? 3).map (·.size) = some 1 := by kernel_rfl

end Fx
section
variable {e : Ctx} {w : World} {As F G : List Hp} {A B DA : Hp} {s d c p q : Nat} {S : SK} {D : DK} {v u : Value} {xs : List Int} {pr : Int → Bool} {Cs : List Hp}
/-- What a closure tells. -/
def Tells (e : Ctx) (Cs : List Hp) (q : Nat) (pr : Int → Bool) : Prop :=
  ∀ w As id, Owns e w As → (∀ B ∈ Cs, Has e As B) → Calls Tryz.prog 90 #[.int .i64 id, .pointer (some ⟨q, 0, none⟩)] w (Ret e fun u Bs => u = .bool (pr id) ∧ Bs = As)
abbrev clo (q : Nat) : Value := .func (.func 90) #[] #[.pointer (some ⟨q, 0, none⟩)]
theorem tells {T : TypeId} {fz : Nat × Nat} (hS : StoreA s d S A) : Tells e [[(q, .cells #[.pointer (some ⟨s, 0, none⟩)] T fz)], A] q (fun id => (lkp id S.bodies).isNone) := by
  intro w As id hw hC
  have h1 := hC _ (.head _)
  have h2 := hC A (.tail _ (.head _))
  obtain ⟨mb, ob, kb, sm, os, ks, BA, GA, hM, hBo, hMs, hSe, rfl⟩ := hS
  refine enter Tryz.func90 rfl Tryz.ntmps90 hw rfl ?_
  refine Cod.seq ?_
  refine Cod.region ?_
  refine Ops.val (opV_assign rfl) rfl ?_
  refine Ops.nil ?_
  refine Ex.next ?_
  refine Cod.seq ?_
  refine Cod.region ?_
  refine Ops.val (opV_load Fx.scal_25 rfl (cellOf h1 (List.Mem.head _) rfl)) rfl ?_
  refine Ops.val (opV_nil rfl) rfl ?_
  refine Ops.val (opV_field Fx.fld_129_1 rfl) rfl ?_
  refine Ops.val (opV_load Fx.scal_126 rfl (cellOf h2 (List.Mem.head _) rfl)) rfl ?_
  refine Ops.val (opV_move rfl) rfl ?_
  refine Ops.val (opV_lookup (κ := Int) Fx.map_126 rfl rfl h2 (.tail _ (.head _)) hM) rfl ?_
  rcases hq : lkp id kb with _ | bv
  · skip
    have hn := (MapH.none_iff hBo).1 hq
    refine Ops.val (opV_ptrnil Fx.ptr_130 rfl rfl rfl) rfl ?_
    refine Ops.val (opV_assign rfl) rfl ?_
    refine Ops.nil ?_
    refine Ex.next ?_
    refine Cod.ret ?_
    exact Ex.ret1 rfl rfl (fun _ h => h.subs (by first | ((repeat (first | exact Sub.refl | exact Sub.nil | apply Sub.emp | (apply Sub.cons; focus ((repeat (first | exact Pick.hd | apply Pick.tl)); done)) | (apply Sub.con; focus ((repeat (first | exact Pick.hd | apply Pick.tl)); done)) | (apply Sub.app; focus ((repeat (first | exact Pick.hd | apply Pick.tl)); done)) | apply Sub.drop)); done) | ((repeat (first | rw [List.append_assoc] | rw [List.cons_append] | rw [List.nil_append] | rw [List.append_nil])); (repeat (first | exact Sub.refl | exact Sub.nil | apply Sub.emp | (apply Sub.cons; focus ((repeat (first | exact Pick.hd | apply Pick.tl)); done)) | (apply Sub.con; focus ((repeat (first | exact Pick.hd | apply Pick.tl)); done)) | (apply Sub.app; focus ((repeat (first | exact Pick.hd | apply Pick.tl)); done)) | apply Sub.drop)); done))) ⟨by simp [hn], rfl⟩
  · skip
    obtain ⟨bb, dv, data', held', seg', R, BA', rfl, hk', _⟩ := BodM.get (e := e) hBo hq
    refine Ops.val (opV_ptrnil Fx.ptr_130 rfl rfl rfl) rfl ?_
    refine Ops.val (opV_assign rfl) rfl ?_
    refine Ops.nil ?_
    refine Ex.next ?_
    refine Cod.ret ?_
    exact Ex.ret1 rfl rfl (fun _ h => h.subs (by first | ((repeat (first | exact Sub.refl | exact Sub.nil | apply Sub.emp | (apply Sub.cons; focus ((repeat (first | exact Pick.hd | apply Pick.tl)); done)) | (apply Sub.con; focus ((repeat (first | exact Pick.hd | apply Pick.tl)); done)) | (apply Sub.app; focus ((repeat (first | exact Pick.hd | apply Pick.tl)); done)) | apply Sub.drop)); done) | ((repeat (first | rw [List.append_assoc] | rw [List.cons_append] | rw [List.nil_append] | rw [List.append_nil])); (repeat (first | exact Sub.refl | exact Sub.nil | apply Sub.emp | (apply Sub.cons; focus ((repeat (first | exact Pick.hd | apply Pick.tl)); done)) | (apply Sub.con; focus ((repeat (first | exact Pick.hd | apply Pick.tl)); done)) | (apply Sub.app; focus ((repeat (first | exact Pick.hd | apply Pick.tl)); done)) | apply Sub.drop)); done))) ⟨by simp [hk'], rfl⟩
theorem indexInts (hT : Tells e Cs q pr) (hw : Owns e w As) (hC : ∀ B ∈ Cs, Has e As B) {m : Nat} (hm : m = xs.length) (hl : xs.length ≤ 1000000000) (hA : Has e As A) (hv : Sl A 1 v m (zcells xs)) :
    Calls Tryz.prog 162 #[v, clo q] w (Ret e fun u Bs => ∃ r : Int, u = .int .i64 r ∧ ((r = -1 ∧ ∀ x ∈ xs, pr x = false) ∨ ∃ k : Nat, r = (k : Int) ∧ k < xs.length ∧ (∃ x, xs[k]? = some x ∧ pr x = true) ∧ ∀ x ∈ xs.take k, pr x = false) ∧ Bs = As) := by
  subst hm
  refine enter Tryz.func162 rfl Tryz.ntmps162 hw rfl ?_
  refine Cod.seq ?_
  refine Cod.region ?_
  refine Ops.val (opV_assign rfl) rfl ?_
  refine Ops.nil ?_
  refine Ex.next ?_
  refine Cod.seq ?_
  refine Cod.seq ?_
  refine Cod.region ?_
  refine Ops.val (opV_move rfl) rfl ?_
  refine Ops.val (opV_len Fx.sl_77 rfl hv.isSlice) rfl ?_
  refine Ops.val (opV_move rfl) rfl ?_
  refine Ops.nil ?_
  refine Ex.next ?_
  refine Cod.block ?_
  refine Cod.loop (X := Nat) (fun i => [(0, v), (1, clo q), (7, .int .i64 xs.length), (8, .int .i64 (i : Int))]) (fun i => As) (fun i => i ≤ xs.length ∧ ∀ x ∈ xs.take i, pr x = false) (fun i => xs.length - i) (0) (⟨Nat.zero_le _, by simp⟩) (by repeat (first | exact trivial | refine ⟨rfl, ?_⟩)) (fun _ h => h.subs (by first | ((repeat (first | exact Sub.refl | exact Sub.nil | apply Sub.emp | (apply Sub.cons; focus ((repeat (first | exact Pick.hd | apply Pick.tl)); done)) | (apply Sub.con; focus ((repeat (first | exact Pick.hd | apply Pick.tl)); done)) | (apply Sub.app; focus ((repeat (first | exact Pick.hd | apply Pick.tl)); done)) | apply Sub.drop)); done) | ((repeat (first | rw [List.append_assoc] | rw [List.cons_append] | rw [List.nil_append] | rw [List.append_nil])); (repeat (first | exact Sub.refl | exact Sub.nil | apply Sub.emp | (apply Sub.cons; focus ((repeat (first | exact Pick.hd | apply Pick.tl)); done)) | (apply Sub.con; focus ((repeat (first | exact Pick.hd | apply Pick.tl)); done)) | (apply Sub.app; focus ((repeat (first | exact Pick.hd | apply Pick.tl)); done)) | apply Sub.drop)); done))) ?_
  rintro i ⟨hi, ht⟩
  try dsimp only
  refine Cod.seq ?_
  refine Cod.region ?_
  refine Ops.val (opV_lss rfl rfl (by first | exact decide_eq_true (by omega) | exact decide_eq_false (by omega) | rfl)) rfl ?_
  refine Ops.nil ?_
  refine Ex.next ?_
  refine Cod.seq ?_
  refine Cod.cond rfl (fun hc => ?_) (fun hc => ?_)
  · try simp at hc
    obtain ⟨x, hx⟩ : ∃ x, xs[i]? = some x := ⟨_, List.getElem?_eq_getElem (by omega)⟩
    refine Cod.skip ?_
    refine Ex.next ?_
    refine Cod.seq ?_
    refine Cod.block ?_
    refine Cod.seq ?_
    refine Cod.region ?_
    refine Ops.val (opV_move rfl) rfl ?_
    refine Ops.val (opV_assign rfl) rfl ?_
    refine Ops.nil ?_
    refine Ex.next ?_
    refine Cod.seq ?_
    refine Cod.region ?_
    refine Ops.val (opV_move rfl) rfl ?_
    refine Ops.val (opV_move rfl) rfl ?_
    refine Ops.val (opV_move rfl) rfl ?_
    refine Ops.val (opV_indexAddr Fx.sl_77 rfl hv (k := i) rfl (by omega)) rfl ?_
    refine Ops.val (opV_loadE Fx.scal_3 rfl hv hA (u := .int .i64 x) (by simp [hx])) rfl ?_
    refine Ops.call rfl (opC_callv rfl Fx.cal_90 rfl (fun w hw => hT w As x hw hC)) rfl ?_
    rintro v16 _ ⟨rfl, hBs⟩
    subst hBs
    refine Ops.nil ?_
    refine Ex.next ?_
    refine Cod.cond rfl (fun hp => ?_) (fun hp => ?_)
    · try simp at hp
      refine Cod.seq ?_
      refine Cod.region ?_
      refine Ops.val (opV_move rfl) rfl ?_
      refine Ops.val (opV_assign rfl) rfl ?_
      refine Ops.nil ?_
      refine Ex.next ?_
      refine Cod.ret ?_
      refine Ex.blockRet ?_
      refine Ex.thenRet ?_
      refine Ex.thenRet ?_
      refine Ex.blockRet ?_
      refine Ex.thenRet ?_
      exact Ex.ret1 rfl rfl (fun _ h => h.subs (by first | ((repeat (first | exact Sub.refl | exact Sub.nil | apply Sub.emp | (apply Sub.cons; focus ((repeat (first | exact Pick.hd | apply Pick.tl)); done)) | (apply Sub.con; focus ((repeat (first | exact Pick.hd | apply Pick.tl)); done)) | (apply Sub.app; focus ((repeat (first | exact Pick.hd | apply Pick.tl)); done)) | apply Sub.drop)); done) | ((repeat (first | rw [List.append_assoc] | rw [List.cons_append] | rw [List.nil_append] | rw [List.append_nil])); (repeat (first | exact Sub.refl | exact Sub.nil | apply Sub.emp | (apply Sub.cons; focus ((repeat (first | exact Pick.hd | apply Pick.tl)); done)) | (apply Sub.con; focus ((repeat (first | exact Pick.hd | apply Pick.tl)); done)) | (apply Sub.app; focus ((repeat (first | exact Pick.hd | apply Pick.tl)); done)) | apply Sub.drop)); done))) ⟨i, rfl, .inr ⟨i, rfl, by omega, ⟨x, hx, by simpa using hp⟩, ht⟩, rfl⟩
    · try simp at hp
      refine Cod.skip ?_
      refine Ex.blockNormal ?_
      refine Ex.next ?_
      refine Cod.region ?_
      refine Ops.val (opV_add64 rfl rfl (by omega)) rfl ?_
      refine Ops.val (opV_move rfl) rfl ?_
      refine Ops.nil ?_
      refine Ex.toN (fun _ _ hs => ⟨i + 1, ⟨by omega, by rw [List.take_add_one, hx]; intro y hy; rcases List.mem_append.1 hy with hy | hy; exact ht y hy; simp at hy; subst hy; simpa using hp⟩, (by first | omega | (dsimp only; omega) | (simp; omega) | (simp; done)), hs⟩) (by repeat (first | exact trivial | refine ⟨rfl, ?_⟩)) (fun _ h => h.subs (by first | ((repeat (first | exact Sub.refl | exact Sub.nil | apply Sub.emp | (apply Sub.cons; focus ((repeat (first | exact Pick.hd | apply Pick.tl)); done)) | (apply Sub.con; focus ((repeat (first | exact Pick.hd | apply Pick.tl)); done)) | (apply Sub.app; focus ((repeat (first | exact Pick.hd | apply Pick.tl)); done)) | apply Sub.drop)); done) | ((repeat (first | rw [List.append_assoc] | rw [List.cons_append] | rw [List.nil_append] | rw [List.append_nil])); (repeat (first | exact Sub.refl | exact Sub.nil | apply Sub.emp | (apply Sub.cons; focus ((repeat (first | exact Pick.hd | apply Pick.tl)); done)) | (apply Sub.con; focus ((repeat (first | exact Pick.hd | apply Pick.tl)); done)) | (apply Sub.app; focus ((repeat (first | exact Pick.hd | apply Pick.tl)); done)) | apply Sub.drop)); done)))
  · try simp at hc
    obtain rfl : i = xs.length := by omega
    refine Cod.exit ?_
    refine Ex.thenExit ?_
    refine Ex.thenExit ?_
    refine Ex.blockHit ?_
    refine Ex.next ?_
    refine Cod.seq ?_
    refine Cod.region ?_
    refine Ops.val (opV_assign rfl) rfl ?_
    refine Ops.nil ?_
    refine Ex.next ?_
    refine Cod.ret ?_
    exact Ex.ret1 rfl rfl (fun _ h => h.subs (by first | ((repeat (first | exact Sub.refl | exact Sub.nil | apply Sub.emp | (apply Sub.cons; focus ((repeat (first | exact Pick.hd | apply Pick.tl)); done)) | (apply Sub.con; focus ((repeat (first | exact Pick.hd | apply Pick.tl)); done)) | (apply Sub.app; focus ((repeat (first | exact Pick.hd | apply Pick.tl)); done)) | apply Sub.drop)); done) | ((repeat (first | rw [List.append_assoc] | rw [List.cons_append] | rw [List.nil_append] | rw [List.append_nil])); (repeat (first | exact Sub.refl | exact Sub.nil | apply Sub.emp | (apply Sub.cons; focus ((repeat (first | exact Pick.hd | apply Pick.tl)); done)) | (apply Sub.con; focus ((repeat (first | exact Pick.hd | apply Pick.tl)); done)) | (apply Sub.app; focus ((repeat (first | exact Pick.hd | apply Pick.tl)); done)) | apply Sub.drop)); done))) ⟨-1, rfl, .inl ⟨rfl, by simpa using ht⟩, rfl⟩
theorem filter_all {l : List Int} (h : ∀ x ∈ l, pr x = false) : l.filter (fun x => !pr x) = l := List.filter_eq_self.2 (fun x hx => by simp [h x hx])
theorem deleteInts (hT : Tells e Cs q pr) (hw : Owns e w As) (hp : Pick As A F) (hC : ∀ B ∈ Cs, Has e F B) {m : Nat} (hm : m = xs.length) (hl : xs.length ≤ 1000000000) (hv : Row 3 1 v m (zcells xs) A) :
    Calls Tryz.prog 88 #[v, clo q] w (Ret e fun u Bs => ∃ A', Row 3 1 u (xs.filter fun x => !pr x).length (zcells (xs.filter fun x => !pr x)) A' ∧ Bs = A' :: F) := by
  subst hm
  refine enter Tryz.func88 rfl Tryz.ntmps88 (hw.pick hp) rfl ?_
  refine Cod.seq ?_
  refine Cod.region ?_
  refine Ops.val (opV_assign rfl) rfl ?_
  refine Ops.nil ?_
  refine Ex.next ?_
  refine Cod.seq ?_
  refine Cod.region ?_
  refine Ops.val (opV_move rfl) rfl ?_
  refine Ops.val (opV_move rfl) rfl ?_
  refine Ops.call rfl (opC_call Fx.cal_162 rfl (fun w hw => indexInts hT hw (fun B hB => (hC B hB).up) rfl hl (.mem (List.Mem.head _)) hv.sl)) rfl ?_
  rintro v10 _ ⟨r, rfl, hr, rfl⟩
  rcases hr with ⟨rfl, hall⟩ | ⟨k, rfl, hk, ⟨xk, hxk, hpk⟩, hpre⟩
  · skip
    refine Ops.val (opV_assign rfl) rfl ?_
    refine Ops.nil ?_
    refine Ex.next ?_
    refine Cod.seq ?_
    refine Cod.seq ?_
    refine Cod.region ?_
    refine Ops.val (opV_move rfl) rfl ?_
    refine Ops.val (opV_eql rfl rfl (by first | exact decide_eq_true (by omega) | exact decide_eq_false (by omega) | rfl)) rfl ?_
    refine Ops.nil ?_
    refine Ex.next ?_
    refine Cod.condT rfl ?_
    refine Cod.seq ?_
    refine Cod.region ?_
    refine Ops.val (opV_move rfl) rfl ?_
    refine Ops.val (opV_assign rfl) rfl ?_
    refine Ops.nil ?_
    refine Ex.next ?_
    refine Cod.ret ?_
    refine Ex.thenRet ?_
    exact Ex.ret1 rfl rfl (fun _ h => h.subs (by first | ((repeat (first | exact Sub.refl | exact Sub.nil | apply Sub.emp | (apply Sub.cons; focus ((repeat (first | exact Pick.hd | apply Pick.tl)); done)) | (apply Sub.con; focus ((repeat (first | exact Pick.hd | apply Pick.tl)); done)) | (apply Sub.app; focus ((repeat (first | exact Pick.hd | apply Pick.tl)); done)) | apply Sub.drop)); done) | ((repeat (first | rw [List.append_assoc] | rw [List.cons_append] | rw [List.nil_append] | rw [List.append_nil])); (repeat (first | exact Sub.refl | exact Sub.nil | apply Sub.emp | (apply Sub.cons; focus ((repeat (first | exact Pick.hd | apply Pick.tl)); done)) | (apply Sub.con; focus ((repeat (first | exact Pick.hd | apply Pick.tl)); done)) | (apply Sub.app; focus ((repeat (first | exact Pick.hd | apply Pick.tl)); done)) | apply Sub.drop)); done))) ⟨A, by rw [filter_all hall]; exact hv, rfl⟩
  · skip
    refine Ops.val (opV_assign rfl) rfl ?_
    refine Ops.nil ?_
    refine Ex.next ?_
    refine Cod.seq ?_
    refine Cod.seq ?_
    refine Cod.region ?_
    refine Ops.val (opV_move rfl) rfl ?_
    refine Ops.val (opV_eql rfl rfl (by first | exact decide_eq_true (by omega) | exact decide_eq_false (by omega) | rfl)) rfl ?_
    refine Ops.nil ?_
    refine Ex.next ?_
    refine Cod.condF rfl ?_
    refine Cod.skip ?_
    refine Ex.next ?_
    refine Cod.seq ?_
    refine Cod.seq ?_
    refine Cod.region ?_
    refine Ops.val (opV_move rfl) rfl ?_
    refine Ops.val (opV_add64 rfl rfl (by omega)) rfl ?_
    have hkk : ((k : Int) + 1) = ((k + 1 : Nat) : Int) := by omega
    rw [hkk]
    have hsplit : xs = xs.take k ++ xk :: xs.drop (k + 1) := by
        conv => lhs; rw [← List.take_append_drop k xs, List.drop_eq_getElem_cons hk, (List.getElem?_eq_some_iff.1 hxk).2]
    have hinit : ∃ t : List Int, (zcells xs).take k = zcells t ∧ t.length = k ∧ t ++ ((xs.drop (k + 1)).filter fun x => !pr x) = xs.filter fun x => !pr x := by
        refine ⟨xs.take k, by simp [zcells], by simp; omega, ?_⟩
        conv => rhs; rw [hsplit, List.filter_append, filter_all hpre]
        simp [hpk]
    refine Ops.val (opV_assign rfl) rfl ?_
    refine Ops.nil ?_
    refine Ex.next ?_
    refine Cod.block ?_
    refine Cod.loop (X := Nat × Nat × List Value × Hp) (fun (i, j, ys, A) => [(0, v), (1, clo q), (5, .int .i64 (i : Int)), (6, .int .i64 (j : Int))]) (fun (i, j, ys, A) => A :: F) (fun (i, j, ys, A) => i < j ∧ j ≤ xs.length ∧ Row 3 1 v xs.length ys A ∧ ys.length = xs.length ∧ (∃ t, ys.take i = zcells t ∧ t.length = i ∧ t ++ ((xs.drop j).filter fun x => !pr x) = xs.filter fun x => !pr x) ∧ ys.drop j = zcells (xs.drop j)) (fun (i, j, ys, A) => xs.length - j) ((k, k + 1, zcells xs, A)) (⟨by omega, by omega, hv, by simp, hinit, by simp [zcells]⟩) (by repeat (first | exact trivial | refine ⟨rfl, ?_⟩)) (fun _ h => h.subs (by first | ((repeat (first | exact Sub.refl | exact Sub.nil | apply Sub.emp | (apply Sub.cons; focus ((repeat (first | exact Pick.hd | apply Pick.tl)); done)) | (apply Sub.con; focus ((repeat (first | exact Pick.hd | apply Pick.tl)); done)) | (apply Sub.app; focus ((repeat (first | exact Pick.hd | apply Pick.tl)); done)) | apply Sub.drop)); done) | ((repeat (first | rw [List.append_assoc] | rw [List.cons_append] | rw [List.nil_append] | rw [List.append_nil])); (repeat (first | exact Sub.refl | exact Sub.nil | apply Sub.emp | (apply Sub.cons; focus ((repeat (first | exact Pick.hd | apply Pick.tl)); done)) | (apply Sub.con; focus ((repeat (first | exact Pick.hd | apply Pick.tl)); done)) | (apply Sub.app; focus ((repeat (first | exact Pick.hd | apply Pick.tl)); done)) | apply Sub.drop)); done))) ?_
    rintro ⟨i, j, ys, A1⟩ ⟨hij, hj, hrow, hyl, ⟨t, ht1, ht2, ht3⟩, hd⟩
    try dsimp only
    refine Cod.seq ?_
    refine Cod.seq ?_
    refine Cod.region ?_
    refine Ops.val (opV_move rfl) rfl ?_
    refine Ops.val (opV_move rfl) rfl ?_
    refine Ops.val (opV_len Fx.sl_77 rfl hrow.isSlice) rfl ?_
    refine Ops.val (opV_lss rfl rfl (by first | exact decide_eq_true (by omega) | exact decide_eq_false (by omega) | rfl)) rfl ?_
    refine Ops.nil ?_
    refine Ex.next ?_
    refine Cod.cond rfl (fun hc => ?_) (fun hc => ?_)
    · try simp at hc
      obtain ⟨x, hx⟩ : ∃ x, xs[j]? = some x := ⟨_, List.getElem?_eq_getElem (by omega)⟩
      have hdx : xs.drop j = x :: xs.drop (j + 1) := by
          rw [List.drop_eq_getElem_cons (show j < xs.length by omega), (List.getElem?_eq_some_iff.1 hx).2]
      have hyx : ys[j * 1]? = some (.int .i64 x) := by
          have := congrArg (·[0]?) hd
          simp only [List.getElem?_drop, hdx] at this
          simpa using this
      have hdj : ys.drop (j + 1) = zcells (xs.drop (j + 1)) := by
          have := congrArg (List.drop 1) hd
          rw [List.drop_drop, hdx] at this
          simpa [zcells] using this
      refine Cod.skip ?_
      refine Ex.next ?_
      refine Cod.seq ?_
      refine Cod.block ?_
      refine Cod.seq ?_
      refine Cod.region ?_
      refine Ops.val (opV_move rfl) rfl ?_
      refine Ops.val (opV_move rfl) rfl ?_
      refine Ops.val (opV_indexAddr Fx.sl_77 rfl hrow.sl (k := j) rfl (by omega)) rfl ?_
      refine Ops.val (opV_loadE Fx.scal_3 rfl hrow.sl (.mem (by repeat (first | exact List.Mem.head _ | apply List.Mem.tail))) hyx) rfl ?_
      refine Ops.val (opV_assign rfl) rfl ?_
      refine Ops.nil ?_
      refine Ex.next ?_
      refine Cod.seq ?_
      refine Cod.region ?_
      refine Ops.val (opV_move rfl) rfl ?_
      refine Ops.val (opV_move rfl) rfl ?_
      refine Ops.call rfl (opC_callv rfl Fx.cal_90 rfl (fun w hw => hT w (A1 :: F) x hw (fun B hB => (hC B hB).up))) rfl ?_
      rintro v28 _ ⟨rfl, rfl⟩
      refine Ops.val (opV_not rfl) rfl ?_
      refine Ops.nil ?_
      refine Ex.next ?_
      refine Cod.cond rfl (fun hpx => ?_) (fun hpx => ?_)
      · try simp at hpx
        have hpx' : pr x = false := by simpa using hpx
        refine Cod.seq ?_
        refine Cod.region ?_
        refine Ops.val (opV_move rfl) rfl ?_
        refine Ops.val (opV_move rfl) rfl ?_
        refine Ops.val (opV_move rfl) rfl ?_
        refine Ops.val (opV_indexAddr Fx.sl_77 rfl hrow.sl (k := i) rfl (by omega)) rfl ?_
        refine Ops.stE rfl (opS_storeE Fx.scal_3 Fx.sz1_3 rfl rfl (by first | rfl | assumption | exact Row.one (by assumption) | exact Sl.one (by assumption)) (by repeat (first | exact Pick.hd | apply Pick.tl)) hrow (by omega) ) ?_
        rintro _ ⟨A2, hA2, rfl⟩
        refine Ops.nil ?_
        refine Ex.next ?_
        refine Cod.region ?_
        refine Ops.val (opV_move rfl) rfl ?_
        refine Ops.val (opV_add64 rfl rfl (by omega)) rfl ?_
        rw [show ((i : Int) + 1) = ((i + 1 : Nat) : Int) by omega]
        refine Ops.val (opV_assign rfl) rfl ?_
        refine Ops.nil ?_
        refine Ex.blockNormal ?_
        refine Ex.next ?_
        refine Cod.region ?_
        refine Ops.val (opV_move rfl) rfl ?_
        refine Ops.val (opV_add64 rfl rfl (by omega)) rfl ?_
        refine Ops.val (opV_assign rfl) rfl ?_
        refine Ops.nil ?_
        refine Ex.toN (fun _ _ hs => ⟨(i + 1, j + 1, ys.set (i * 1) (.int .i64 x), A2), ⟨by dsimp only; omega, by dsimp only; omega, hA2, by simp [hyl], ⟨t ++ [x], by rw [Nat.mul_one, List.take_add_one, List.take_set_of_le (Nat.le_refl _), ht1, List.getElem?_set_self (by omega)]; simp [zcells], by simp [ht2], by rw [← ht3, hdx]; simp [hpx']⟩, by dsimp only; rw [Nat.mul_one, List.drop_set_of_lt (by omega)]; exact hdj⟩, (by first | omega | (dsimp only; omega) | (simp; omega) | (simp; done)), hs⟩) (by repeat (first | exact trivial | refine ⟨rfl, ?_⟩)) (fun _ h => h.subs (by first | ((repeat (first | exact Sub.refl | exact Sub.nil | apply Sub.emp | (apply Sub.cons; focus ((repeat (first | exact Pick.hd | apply Pick.tl)); done)) | (apply Sub.con; focus ((repeat (first | exact Pick.hd | apply Pick.tl)); done)) | (apply Sub.app; focus ((repeat (first | exact Pick.hd | apply Pick.tl)); done)) | apply Sub.drop)); done) | ((repeat (first | rw [List.append_assoc] | rw [List.cons_append] | rw [List.nil_append] | rw [List.append_nil])); (repeat (first | exact Sub.refl | exact Sub.nil | apply Sub.emp | (apply Sub.cons; focus ((repeat (first | exact Pick.hd | apply Pick.tl)); done)) | (apply Sub.con; focus ((repeat (first | exact Pick.hd | apply Pick.tl)); done)) | (apply Sub.app; focus ((repeat (first | exact Pick.hd | apply Pick.tl)); done)) | apply Sub.drop)); done)))
      · try simp at hpx
        have hpx' : pr x = true := by simpa using hpx
        refine Cod.skip ?_
        refine Ex.blockNormal ?_
        refine Ex.next ?_
        refine Cod.region ?_
        refine Ops.val (opV_move rfl) rfl ?_
        refine Ops.val (opV_add64 rfl rfl (by omega)) rfl ?_
        refine Ops.val (opV_assign rfl) rfl ?_
        refine Ops.nil ?_
        refine Ex.toN (fun _ _ hs => ⟨(i, j + 1, ys, A1), ⟨by dsimp only; omega, by dsimp only; omega, hrow, hyl, ⟨t, ht1, ht2, by rw [← ht3, hdx]; simp [hpx']⟩, hdj⟩, (by first | omega | (dsimp only; omega) | (simp; omega) | (simp; done)), hs⟩) (by repeat (first | exact trivial | refine ⟨rfl, ?_⟩)) (fun _ h => h.subs (by first | ((repeat (first | exact Sub.refl | exact Sub.nil | apply Sub.emp | (apply Sub.cons; focus ((repeat (first | exact Pick.hd | apply Pick.tl)); done)) | (apply Sub.con; focus ((repeat (first | exact Pick.hd | apply Pick.tl)); done)) | (apply Sub.app; focus ((repeat (first | exact Pick.hd | apply Pick.tl)); done)) | apply Sub.drop)); done) | ((repeat (first | rw [List.append_assoc] | rw [List.cons_append] | rw [List.nil_append] | rw [List.append_nil])); (repeat (first | exact Sub.refl | exact Sub.nil | apply Sub.emp | (apply Sub.cons; focus ((repeat (first | exact Pick.hd | apply Pick.tl)); done)) | (apply Sub.con; focus ((repeat (first | exact Pick.hd | apply Pick.tl)); done)) | (apply Sub.app; focus ((repeat (first | exact Pick.hd | apply Pick.tl)); done)) | apply Sub.drop)); done)))
    · try simp at hc
      obtain rfl : j = xs.length := by omega
      simp only [List.drop_length, List.filter_nil, List.append_nil] at ht3
      refine Cod.exit ?_
      refine Ex.thenExit ?_
      refine Ex.thenExit ?_
      refine Ex.blockHit ?_
      refine Ex.next ?_
      refine Cod.seq ?_
      refine Cod.region ?_
      refine Ops.val (opV_move rfl) rfl ?_
      refine Ops.val (opV_move rfl) rfl ?_
      refine Ops.val (opV_slice Fx.sl_77 rfl hrow.sl (lo' := i) (hi' := xs.length) ⟨_, rfl⟩ rfl (by omega) (Nat.le_refl _)) rfl ?_
      refine Ops.effN rfl (opE_clear Fx.sl_77 rfl (by decide) (by simp [Value.oneCell', Value.cells]) rfl (by repeat (first | exact Pick.hd | apply Pick.tl)) hrow (by omega)) ?_
      rintro v _ ⟨A3, zs, hA3, hzs, rfl⟩
      refine Ops.nil ?_
      refine Ex.next ?_
      refine Cod.seq ?_
      refine Cod.region ?_
      refine Ops.val (opV_move rfl) rfl ?_
      refine Ops.val (opV_move rfl) rfl ?_
      refine Ops.val (opV_slice Fx.sl_77 rfl hA3.sl (lo' := 0) (hi' := i) rfl ⟨_, rfl⟩ (by omega) (by omega)) rfl ?_
      have hfin := hA3.rsl (lo := 0) (hi := i) (by omega) (by omega)
      rw [Nat.mul_one] at hzs
      refine Ops.val (opV_assign rfl) rfl ?_
      refine Ops.nil ?_
      refine Ex.next ?_
      refine Cod.ret ?_
      exact Ex.ret1 rfl rfl (fun _ h => h.subs (by first | ((repeat (first | exact Sub.refl | exact Sub.nil | apply Sub.emp | (apply Sub.cons; focus ((repeat (first | exact Pick.hd | apply Pick.tl)); done)) | (apply Sub.con; focus ((repeat (first | exact Pick.hd | apply Pick.tl)); done)) | (apply Sub.app; focus ((repeat (first | exact Pick.hd | apply Pick.tl)); done)) | apply Sub.drop)); done) | ((repeat (first | rw [List.append_assoc] | rw [List.cons_append] | rw [List.nil_append] | rw [List.append_nil])); (repeat (first | exact Sub.refl | exact Sub.nil | apply Sub.emp | (apply Sub.cons; focus ((repeat (first | exact Pick.hd | apply Pick.tl)); done)) | (apply Sub.con; focus ((repeat (first | exact Pick.hd | apply Pick.tl)); done)) | (apply Sub.app; focus ((repeat (first | exact Pick.hd | apply Pick.tl)); done)) | apply Sub.drop)); done))) ⟨A3, by rw [← ht3, ht2]; simpa [hzs, ht1] using hfin, rfl⟩
end
end Go.Proofs.YteejmoldhbfdnaaGreatDoor.Coll
