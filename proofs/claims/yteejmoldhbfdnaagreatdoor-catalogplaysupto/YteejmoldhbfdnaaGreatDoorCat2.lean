/- Package catalog: Keys, Pairs, Commit, Compact; the reference's small comparisons. -/
import Derived.Test.YteejmoldhbfdnaaGreatDoorCat
set_option maxRecDepth 8000
namespace Go.Proofs.YteejmoldhbfdnaaGreatDoor.Cat2
open Go.W Go.RowKit Lib1 Oct OctR Seal Disk Disk2 Wal Num Wal2 Wal3 CatL Cat
namespace Fx
theorem agg_74 : aggSz Tryz.prog 74 = some 2 := by kernel_rfl
theorem cal_27 : callable Tryz.prog 27 = true := by kernel_rfl
theorem cal_80 : callable Tryz.prog 80 = true := by kernel_rfl
theorem cal_81 : callable Tryz.prog 81 = true := by kernel_rfl
theorem cal_82 : callable Tryz.prog 82 = true := by kernel_rfl
theorem flat_74 : flatSt Tryz.prog 74 = some [.s, .s] := by kernel_rfl
theorem fld_154_1 : fieldOff Tryz.prog 154 1 = some 1 := by kernel_rfl
theorem fv_152_0 : fldV Tryz.prog 152 0 = some (0, none) := by kernel_rfl
theorem map_149 : mapInfo Tryz.prog 149 = some (.string, (.agg #[(S [])])) := by kernel_rfl
theorem ni_47 : notInt Tryz.prog 47 = true := by kernel_rfl
theorem ni_67 : notInt Tryz.prog 67 = true := by kernel_rfl
theorem scal_149 : scalarB Tryz.prog 149 = true := by kernel_rfl
theorem scal_9 : scalarB Tryz.prog 9 = true := by kernel_rfl
theorem sl_47 : slInfo Tryz.prog 47 = some (74, 2, 32, some (.agg #[(S []), (S [])])) := by kernel_rfl
theorem sl_67 : slInfo Tryz.prog 67 = some (9, 1, 16, some (S [])) := by kernel_rfl
theorem st_74 : stInfo Tryz.prog 74 = some (#[(S []), (S [])], #[(0, 1), (1, 1)]) := by kernel_rfl

end Fx
def sk (es : List Pr) : List Str := (es.map Prod.fst).mergeSort (fun x y => decide (x ≤ y))
def pairsOf (es : List Pr) : List Pr := (sk es).map fun k => (k, (lkp k es).getD [])
theorem sk_len (es : List Pr) : (sk es).length = es.length := by simp [sk]
theorem sk_mem {es : List Pr} {k : Str} : k ∈ sk es ↔ k ∈ es.map Prod.fst := by unfold sk; exact List.mem_mergeSort
theorem key_le {es : List Pr} {x : Pr} (h : x ∈ es) : x.1.length + x.2.length ≤ sumB es := by
  induction es with
  | nil => cases h
  | cons y ys ih =>
    rcases List.mem_cons.1 h with rfl | h
    · simp [sumB]
    · have := ih h; simp [sumB] at this ⊢; omega
theorem pairs_succ {es : List Pr} {i : Nat} {k : Str} (h : (sk es)[i]? = some k) : (pairsOf es).take (i + 1) = (pairsOf es).take i ++ [(k, (lkp k es).getD [])] := by
  rw [List.take_add_one]
  simp [pairsOf, List.getElem?_map, h]
theorem pairs_len (es : List Pr) : (pairsOf es).length = es.length := by simp [pairsOf, sk_len]
section
variable {e : Ctx} {w : World} {As F G : List Hp} {A B DA : Hp} {c d lb gen size : Nat} {es : List Pr} {cs : List Ch} {v u lv : Value} {x : Ch} {D : DK} {key pre : Str} {xs ys : List Str} {ps qs : List Pr}
theorem sameTexts (hw : Owns e w As) (hA : Has e As A) (hB : Has e As B) {m n : Nat} (hm : m = xs.length) (hn : n = ys.length) (hl : xs.length ≤ 1000000000) (hv : Sl A 1 v m (xs.map S)) (hu : Sl B 1 u n (ys.map S)) :
    Calls Tryz.prog 28 #[v, u] w (Ret e fun u Bs => u = .bool (decide (xs = ys)) ∧ Bs = As) := by
  subst hm hn
  refine enter Tryz.func28 rfl Tryz.ntmps28 hw rfl ?_
  refine Cod.seq ?_
  refine Cod.region ?_
  refine Ops.val (opV_assign rfl) rfl ?_
  refine Ops.nil ?_
  refine Ex.next ?_
  refine Cod.seq ?_
  refine Cod.seq ?_
  refine Cod.region ?_
  refine Ops.val (opV_move rfl) rfl ?_
  refine Ops.val (opV_len Fx.sl_67 rfl hv.isSlice) rfl ?_
  refine Ops.val (opV_move rfl) rfl ?_
  refine Ops.val (opV_len Fx.sl_67 rfl hu.isSlice) rfl ?_
  refine Ops.val (opV_neq rfl rfl (by first | exact decide_eq_true (by omega) | exact decide_eq_false (by omega) | rfl)) rfl ?_
  refine Ops.nil ?_
  refine Ex.next ?_
  refine Cod.cond rfl (fun hne => ?_) (fun hne => ?_)
  · try simp at hne
    refine Cod.seq ?_
    refine Cod.region ?_
    refine Ops.val (opV_assign rfl) rfl ?_
    refine Ops.nil ?_
    refine Ex.next ?_
    refine Cod.ret ?_
    refine Ex.thenRet ?_
    exact Ex.ret1 rfl rfl (fun _ h => h.subs (by first | ((repeat (first | exact Sub.refl | exact Sub.nil | apply Sub.emp | (apply Sub.cons; focus ((repeat (first | exact Pick.hd | apply Pick.tl)); done)) | (apply Sub.con; focus ((repeat (first | exact Pick.hd | apply Pick.tl)); done)) | (apply Sub.app; focus ((repeat (first | exact Pick.hd | apply Pick.tl)); done)) | apply Sub.drop)); done) | ((repeat (first | rw [List.append_assoc] | rw [List.cons_append] | rw [List.nil_append] | rw [List.append_nil])); (repeat (first | exact Sub.refl | exact Sub.nil | apply Sub.emp | (apply Sub.cons; focus ((repeat (first | exact Pick.hd | apply Pick.tl)); done)) | (apply Sub.con; focus ((repeat (first | exact Pick.hd | apply Pick.tl)); done)) | (apply Sub.app; focus ((repeat (first | exact Pick.hd | apply Pick.tl)); done)) | apply Sub.drop)); done))) ⟨by simp; intro q; subst q; simp at hne, rfl⟩
  · try simp at hne
    refine Cod.skip ?_
    refine Ex.next ?_
    refine Cod.seq ?_
    refine Cod.seq ?_
    refine Cod.region ?_
    refine Ops.val (opV_assign rfl) rfl ?_
    refine Ops.nil ?_
    refine Ex.next ?_
    refine Cod.block ?_
    refine Cod.loop (X := Nat) (fun i => [(0, v), (1, u), (5, .int .i64 (i : Int))]) (fun _ => As) (fun i => i ≤ xs.length ∧ xs.take i = ys.take i) (fun i => xs.length - i) (0) (⟨Nat.zero_le _, rfl⟩) (by repeat (first | exact trivial | refine ⟨rfl, ?_⟩)) (fun _ h => h.subs (by first | ((repeat (first | exact Sub.refl | exact Sub.nil | apply Sub.emp | (apply Sub.cons; focus ((repeat (first | exact Pick.hd | apply Pick.tl)); done)) | (apply Sub.con; focus ((repeat (first | exact Pick.hd | apply Pick.tl)); done)) | (apply Sub.app; focus ((repeat (first | exact Pick.hd | apply Pick.tl)); done)) | apply Sub.drop)); done) | ((repeat (first | rw [List.append_assoc] | rw [List.cons_append] | rw [List.nil_append] | rw [List.append_nil])); (repeat (first | exact Sub.refl | exact Sub.nil | apply Sub.emp | (apply Sub.cons; focus ((repeat (first | exact Pick.hd | apply Pick.tl)); done)) | (apply Sub.con; focus ((repeat (first | exact Pick.hd | apply Pick.tl)); done)) | (apply Sub.app; focus ((repeat (first | exact Pick.hd | apply Pick.tl)); done)) | apply Sub.drop)); done))) ?_
    rintro i ⟨hi, ht⟩
    try dsimp only
    refine Cod.seq ?_
    refine Cod.seq ?_
    refine Cod.region ?_
    refine Ops.val (opV_move rfl) rfl ?_
    refine Ops.val (opV_move rfl) rfl ?_
    refine Ops.val (opV_len Fx.sl_67 rfl hv.isSlice) rfl ?_
    refine Ops.val (opV_lss rfl rfl (by first | exact decide_eq_true (by omega) | exact decide_eq_false (by omega) | rfl)) rfl ?_
    refine Ops.nil ?_
    refine Ex.next ?_
    refine Cod.cond rfl (fun hc => ?_) (fun hc => ?_)
    · try simp at hc
      obtain ⟨x, hx⟩ : ∃ x, xs[i]? = some x := ⟨_, List.getElem?_eq_getElem (by omega)⟩
      obtain ⟨y, hy⟩ : ∃ y, ys[i]? = some y := ⟨_, List.getElem?_eq_getElem (by omega)⟩
      refine Cod.skip ?_
      refine Ex.next ?_
      refine Cod.seq ?_
      refine Cod.block ?_
      refine Cod.seq ?_
      refine Cod.draw0 [3, 7] [0, 1, 2, 4, 5, 6, 8] [0, 1, 2, 3, 4, 5, 6, 7, 8] M.mixed (by kernel_rfl) ?_
      refine AnyJ.valU rfl rfl rfl (opV_move rfl) rfl (fun _ _ _ h => h.2.elim) ?_
      refine AnyJ.valU rfl rfl rfl (opV_move rfl) rfl (fun _ _ _ h => h.2.elim) ?_
      refine AnyJ.valU rfl rfl rfl (opV_indexAddr Fx.sl_67 rfl hv (k := i) rfl (by omega)) rfl (fun _ _ _ h => h.2.elim) ?_
      refine AnyJ.val rfl rfl (opV_loadE Fx.scal_9 rfl hv hA (u := S x) (by simp [hx])) rfl (fun _ _ _ h => h.2.elim) (fun _ h => h) ?_
      refine AnyJ.valU rfl rfl rfl (opV_move rfl) rfl (fun _ _ _ h => h.2.elim) ?_
      refine AnyJ.valU rfl rfl rfl (opV_move rfl) rfl (fun _ _ _ h => h.2.elim) ?_
      refine AnyJ.valU rfl rfl rfl (opV_indexAddr Fx.sl_67 rfl hu (k := i) rfl (by omega)) rfl (fun _ _ _ h => h.2.elim) ?_
      refine AnyJ.val rfl rfl (opV_loadE Fx.scal_9 rfl hu hB (u := S y) (by simp [hy])) rfl (fun _ _ _ h => h.2.elim) (fun _ h => h) ?_
      refine AnyJ.valU rfl rfl rfl (opV_sneq rfl rfl rfl) rfl (fun _ _ _ h => h.2.elim) ?_
      refine AnyJ.nil ?_
      refine Ex.next ?_
      refine Cod.cond rfl (fun hxy => ?_) (fun hxy => ?_)
      · try simp at hxy
        refine Cod.seq ?_
        refine Cod.region ?_
        refine Ops.val (opV_assign rfl) rfl ?_
        refine Ops.nil ?_
        refine Ex.next ?_
        refine Cod.ret ?_
        refine Ex.blockRet ?_
        refine Ex.thenRet ?_
        refine Ex.thenRet ?_
        refine Ex.blockRet ?_
        refine Ex.thenRet ?_
        exact Ex.ret1 rfl rfl (fun _ h => h.subs (by first | ((repeat (first | exact Sub.refl | exact Sub.nil | apply Sub.emp | (apply Sub.cons; focus ((repeat (first | exact Pick.hd | apply Pick.tl)); done)) | (apply Sub.con; focus ((repeat (first | exact Pick.hd | apply Pick.tl)); done)) | (apply Sub.app; focus ((repeat (first | exact Pick.hd | apply Pick.tl)); done)) | apply Sub.drop)); done) | ((repeat (first | rw [List.append_assoc] | rw [List.cons_append] | rw [List.nil_append] | rw [List.append_nil])); (repeat (first | exact Sub.refl | exact Sub.nil | apply Sub.emp | (apply Sub.cons; focus ((repeat (first | exact Pick.hd | apply Pick.tl)); done)) | (apply Sub.con; focus ((repeat (first | exact Pick.hd | apply Pick.tl)); done)) | (apply Sub.app; focus ((repeat (first | exact Pick.hd | apply Pick.tl)); done)) | apply Sub.drop)); done))) ⟨by simp; intro q; subst q; rw [hx] at hy; cases hy; exact hxy rfl, rfl⟩
      · try simp at hxy
        refine Cod.skip ?_
        refine Ex.blockNormal ?_
        refine Ex.next ?_
        refine Cod.region ?_
        refine Ops.val (opV_move rfl) rfl ?_
        refine Ops.val (opV_add64 rfl rfl (by omega)) rfl ?_
        refine Ops.val (opV_assign rfl) rfl ?_
        refine Ops.nil ?_
        refine Ex.toN (fun _ _ hs => ⟨i + 1, ⟨by omega, by rw [List.take_add_one, List.take_add_one, ht, hx, hy]; rw [hxy]⟩, (by first | omega | (dsimp only; omega) | (simp; omega) | (simp; done)), hs⟩) (by repeat (first | exact trivial | refine ⟨rfl, ?_⟩)) (fun _ h => h.subs (by first | ((repeat (first | exact Sub.refl | exact Sub.nil | apply Sub.emp | (apply Sub.cons; focus ((repeat (first | exact Pick.hd | apply Pick.tl)); done)) | (apply Sub.con; focus ((repeat (first | exact Pick.hd | apply Pick.tl)); done)) | (apply Sub.app; focus ((repeat (first | exact Pick.hd | apply Pick.tl)); done)) | apply Sub.drop)); done) | ((repeat (first | rw [List.append_assoc] | rw [List.cons_append] | rw [List.nil_append] | rw [List.append_nil])); (repeat (first | exact Sub.refl | exact Sub.nil | apply Sub.emp | (apply Sub.cons; focus ((repeat (first | exact Pick.hd | apply Pick.tl)); done)) | (apply Sub.con; focus ((repeat (first | exact Pick.hd | apply Pick.tl)); done)) | (apply Sub.app; focus ((repeat (first | exact Pick.hd | apply Pick.tl)); done)) | apply Sub.drop)); done)))
    · try simp at hc
      obtain rfl : i = xs.length := by omega
      have hlen : xs.length = ys.length := by omega
      have hxy : xs = ys := by rw [List.take_length, hlen, List.take_length] at ht; exact ht
      refine Cod.exit ?_
      refine Ex.thenExit ?_
      refine Ex.thenExit ?_
      refine Ex.blockHit ?_
      refine Ex.next ?_
      refine Cod.seq ?_
      refine Cod.region ?_
      refine Ops.val (opV_assign rfl) rfl ?_
      refine Ops.nil ?_
      refine Ex.next ?_
      refine Cod.ret ?_
      exact Ex.ret1 rfl rfl (fun _ h => h.subs (by first | ((repeat (first | exact Sub.refl | exact Sub.nil | apply Sub.emp | (apply Sub.cons; focus ((repeat (first | exact Pick.hd | apply Pick.tl)); done)) | (apply Sub.con; focus ((repeat (first | exact Pick.hd | apply Pick.tl)); done)) | (apply Sub.app; focus ((repeat (first | exact Pick.hd | apply Pick.tl)); done)) | apply Sub.drop)); done) | ((repeat (first | rw [List.append_assoc] | rw [List.cons_append] | rw [List.nil_append] | rw [List.append_nil])); (repeat (first | exact Sub.refl | exact Sub.nil | apply Sub.emp | (apply Sub.cons; focus ((repeat (first | exact Pick.hd | apply Pick.tl)); done)) | (apply Sub.con; focus ((repeat (first | exact Pick.hd | apply Pick.tl)); done)) | (apply Sub.app; focus ((repeat (first | exact Pick.hd | apply Pick.tl)); done)) | apply Sub.drop)); done))) ⟨by simp [hxy], rfl⟩
theorem samePairs (hw : Owns e w As) (hA : Has e As A) (hB : Has e As B) {m n : Nat} (hm : m = ps.length) (hn : n = qs.length) (hl : ps.length ≤ 1000000000) (hv : Sl A 2 v m (prs ps)) (hu : Sl B 2 u n (prs qs)) :
    Calls Tryz.prog 20 #[v, u] w (Ret e fun u Bs => u = .bool (decide (ps = qs)) ∧ Bs = As) := by
  subst hm hn
  refine enter Tryz.func20 rfl Tryz.ntmps20 hw rfl ?_
  refine Cod.seq ?_
  refine Cod.region ?_
  refine Ops.val (opV_assign rfl) rfl ?_
  refine Ops.nil ?_
  refine Ex.next ?_
  refine Cod.seq ?_
  refine Cod.seq ?_
  refine Cod.region ?_
  refine Ops.val (opV_move rfl) rfl ?_
  refine Ops.val (opV_len Fx.sl_47 rfl hv.isSlice) rfl ?_
  refine Ops.val (opV_move rfl) rfl ?_
  refine Ops.val (opV_len Fx.sl_47 rfl hu.isSlice) rfl ?_
  refine Ops.val (opV_neq rfl rfl (by first | exact decide_eq_true (by omega) | exact decide_eq_false (by omega) | rfl)) rfl ?_
  refine Ops.nil ?_
  refine Ex.next ?_
  refine Cod.cond rfl (fun hne => ?_) (fun hne => ?_)
  · try simp at hne
    refine Cod.seq ?_
    refine Cod.region ?_
    refine Ops.val (opV_assign rfl) rfl ?_
    refine Ops.nil ?_
    refine Ex.next ?_
    refine Cod.ret ?_
    refine Ex.thenRet ?_
    exact Ex.ret1 rfl rfl (fun _ h => h.subs (by first | ((repeat (first | exact Sub.refl | exact Sub.nil | apply Sub.emp | (apply Sub.cons; focus ((repeat (first | exact Pick.hd | apply Pick.tl)); done)) | (apply Sub.con; focus ((repeat (first | exact Pick.hd | apply Pick.tl)); done)) | (apply Sub.app; focus ((repeat (first | exact Pick.hd | apply Pick.tl)); done)) | apply Sub.drop)); done) | ((repeat (first | rw [List.append_assoc] | rw [List.cons_append] | rw [List.nil_append] | rw [List.append_nil])); (repeat (first | exact Sub.refl | exact Sub.nil | apply Sub.emp | (apply Sub.cons; focus ((repeat (first | exact Pick.hd | apply Pick.tl)); done)) | (apply Sub.con; focus ((repeat (first | exact Pick.hd | apply Pick.tl)); done)) | (apply Sub.app; focus ((repeat (first | exact Pick.hd | apply Pick.tl)); done)) | apply Sub.drop)); done))) ⟨by simp; intro q; subst q; simp at hne, rfl⟩
  · try simp at hne
    refine Cod.skip ?_
    refine Ex.next ?_
    refine Cod.seq ?_
    refine Cod.seq ?_
    refine Cod.region ?_
    refine Ops.val (opV_assign rfl) rfl ?_
    refine Ops.nil ?_
    refine Ex.next ?_
    refine Cod.block ?_
    refine Cod.loop (X := Nat) (fun i => [(0, v), (1, u), (5, .int .i64 (i : Int))]) (fun _ => As) (fun i => i ≤ ps.length ∧ ps.take i = qs.take i) (fun i => ps.length - i) (0) (⟨Nat.zero_le _, rfl⟩) (by repeat (first | exact trivial | refine ⟨rfl, ?_⟩)) (fun _ h => h.subs (by first | ((repeat (first | exact Sub.refl | exact Sub.nil | apply Sub.emp | (apply Sub.cons; focus ((repeat (first | exact Pick.hd | apply Pick.tl)); done)) | (apply Sub.con; focus ((repeat (first | exact Pick.hd | apply Pick.tl)); done)) | (apply Sub.app; focus ((repeat (first | exact Pick.hd | apply Pick.tl)); done)) | apply Sub.drop)); done) | ((repeat (first | rw [List.append_assoc] | rw [List.cons_append] | rw [List.nil_append] | rw [List.append_nil])); (repeat (first | exact Sub.refl | exact Sub.nil | apply Sub.emp | (apply Sub.cons; focus ((repeat (first | exact Pick.hd | apply Pick.tl)); done)) | (apply Sub.con; focus ((repeat (first | exact Pick.hd | apply Pick.tl)); done)) | (apply Sub.app; focus ((repeat (first | exact Pick.hd | apply Pick.tl)); done)) | apply Sub.drop)); done))) ?_
    rintro i ⟨hi, ht⟩
    try dsimp only
    refine Cod.seq ?_
    refine Cod.seq ?_
    refine Cod.region ?_
    refine Ops.val (opV_move rfl) rfl ?_
    refine Ops.val (opV_move rfl) rfl ?_
    refine Ops.val (opV_len Fx.sl_47 rfl hv.isSlice) rfl ?_
    refine Ops.val (opV_lss rfl rfl (by first | exact decide_eq_true (by omega) | exact decide_eq_false (by omega) | rfl)) rfl ?_
    refine Ops.nil ?_
    refine Ex.next ?_
    refine Cod.cond rfl (fun hc => ?_) (fun hc => ?_)
    · try simp at hc
      obtain ⟨x, hx⟩ : ∃ x, ps[i]? = some x := ⟨_, List.getElem?_eq_getElem (by omega)⟩
      obtain ⟨y, hy⟩ : ∃ y, qs[i]? = some y := ⟨_, List.getElem?_eq_getElem (by omega)⟩
      refine Cod.skip ?_
      refine Ex.next ?_
      refine Cod.seq ?_
      refine Cod.block ?_
      refine Cod.seq ?_
      refine Cod.draw0 [3, 7] [0, 1, 2, 4, 5, 6, 8] [0, 1, 2, 3, 4, 5, 6, 7, 8] M.mixed (by kernel_rfl) ?_
      refine AnyJ.valU rfl rfl rfl (opV_move rfl) rfl (fun _ _ _ h => h.2.elim) ?_
      refine AnyJ.valU rfl rfl rfl (opV_move rfl) rfl (fun _ _ _ h => h.2.elim) ?_
      refine AnyJ.valU rfl rfl rfl (opV_indexAddr Fx.sl_47 rfl hv (k := i) rfl (by omega)) rfl (fun _ _ _ h => h.2.elim) ?_
      refine AnyJ.val rfl rfl (opV_loadEA Fx.agg_74 rfl hv hA (prs_get hx) rfl (by decide)) rfl (fun _ _ _ h => h.2.elim) (fun _ h => h) ?_
      refine AnyJ.valU rfl rfl rfl (opV_move rfl) rfl (fun _ _ _ h => h.2.elim) ?_
      refine AnyJ.valU rfl rfl rfl (opV_move rfl) rfl (fun _ _ _ h => h.2.elim) ?_
      refine AnyJ.valU rfl rfl rfl (opV_indexAddr Fx.sl_47 rfl hu (k := i) rfl (by omega)) rfl (fun _ _ _ h => h.2.elim) ?_
      refine AnyJ.val rfl rfl (opV_loadEA Fx.agg_74 rfl hu hB (prs_get hy) rfl (by decide)) rfl (fun _ _ _ h => h.2.elim) (fun _ h => h) ?_
      have heq : (eqvL [S x.1, S x.2] [S y.1, S y.2] = true) ↔ x = y := by
          simp only [eqvL, eqv_S, Bool.and_true, Bool.and_eq_true, decide_eq_true_eq]
          exact ⟨fun ⟨a, b⟩ => Prod.ext a b, fun q => by rw [q]; exact ⟨rfl, rfl⟩⟩
      refine AnyJ.valU rfl rfl rfl (opV_stneq Fx.flat_74 rfl rfl rfl rfl (rfl)) rfl (fun _ _ _ h => h.2.elim) ?_
      refine AnyJ.nil ?_
      refine Ex.next ?_
      refine Cod.cond rfl (fun hxy => ?_) (fun hxy => ?_)
      · try simp at hxy
        refine Cod.seq ?_
        refine Cod.region ?_
        refine Ops.val (opV_assign rfl) rfl ?_
        refine Ops.nil ?_
        refine Ex.next ?_
        refine Cod.ret ?_
        refine Ex.blockRet ?_
        refine Ex.thenRet ?_
        refine Ex.thenRet ?_
        refine Ex.blockRet ?_
        refine Ex.thenRet ?_
        exact Ex.ret1 rfl rfl (fun _ h => h.subs (by first | ((repeat (first | exact Sub.refl | exact Sub.nil | apply Sub.emp | (apply Sub.cons; focus ((repeat (first | exact Pick.hd | apply Pick.tl)); done)) | (apply Sub.con; focus ((repeat (first | exact Pick.hd | apply Pick.tl)); done)) | (apply Sub.app; focus ((repeat (first | exact Pick.hd | apply Pick.tl)); done)) | apply Sub.drop)); done) | ((repeat (first | rw [List.append_assoc] | rw [List.cons_append] | rw [List.nil_append] | rw [List.append_nil])); (repeat (first | exact Sub.refl | exact Sub.nil | apply Sub.emp | (apply Sub.cons; focus ((repeat (first | exact Pick.hd | apply Pick.tl)); done)) | (apply Sub.con; focus ((repeat (first | exact Pick.hd | apply Pick.tl)); done)) | (apply Sub.app; focus ((repeat (first | exact Pick.hd | apply Pick.tl)); done)) | apply Sub.drop)); done))) ⟨by simp; intro q; subst q; rw [hx] at hy; cases hy; simp [heq.2 rfl] at hxy, rfl⟩
      · try simp at hxy
        refine Cod.skip ?_
        refine Ex.blockNormal ?_
        refine Ex.next ?_
        refine Cod.region ?_
        refine Ops.val (opV_move rfl) rfl ?_
        refine Ops.val (opV_add64 rfl rfl (by omega)) rfl ?_
        refine Ops.val (opV_assign rfl) rfl ?_
        refine Ops.nil ?_
        refine Ex.toN (fun _ _ hs => ⟨i + 1, ⟨by omega, by rw [List.take_add_one, List.take_add_one, ht, hx, hy]; rw [heq.1 (by simpa using hxy)]⟩, (by first | omega | (dsimp only; omega) | (simp; omega) | (simp; done)), hs⟩) (by repeat (first | exact trivial | refine ⟨rfl, ?_⟩)) (fun _ h => h.subs (by first | ((repeat (first | exact Sub.refl | exact Sub.nil | apply Sub.emp | (apply Sub.cons; focus ((repeat (first | exact Pick.hd | apply Pick.tl)); done)) | (apply Sub.con; focus ((repeat (first | exact Pick.hd | apply Pick.tl)); done)) | (apply Sub.app; focus ((repeat (first | exact Pick.hd | apply Pick.tl)); done)) | apply Sub.drop)); done) | ((repeat (first | rw [List.append_assoc] | rw [List.cons_append] | rw [List.nil_append] | rw [List.append_nil])); (repeat (first | exact Sub.refl | exact Sub.nil | apply Sub.emp | (apply Sub.cons; focus ((repeat (first | exact Pick.hd | apply Pick.tl)); done)) | (apply Sub.con; focus ((repeat (first | exact Pick.hd | apply Pick.tl)); done)) | (apply Sub.app; focus ((repeat (first | exact Pick.hd | apply Pick.tl)); done)) | apply Sub.drop)); done)))
    · try simp at hc
      obtain rfl : i = ps.length := by omega
      have hlen : ps.length = qs.length := by omega
      have hxy : ps = qs := by rw [List.take_length, hlen, List.take_length] at ht; exact ht
      refine Cod.exit ?_
      refine Ex.thenExit ?_
      refine Ex.thenExit ?_
      refine Ex.blockHit ?_
      refine Ex.next ?_
      refine Cod.seq ?_
      refine Cod.region ?_
      refine Ops.val (opV_assign rfl) rfl ?_
      refine Ops.nil ?_
      refine Ex.next ?_
      refine Cod.ret ?_
      exact Ex.ret1 rfl rfl (fun _ h => h.subs (by first | ((repeat (first | exact Sub.refl | exact Sub.nil | apply Sub.emp | (apply Sub.cons; focus ((repeat (first | exact Pick.hd | apply Pick.tl)); done)) | (apply Sub.con; focus ((repeat (first | exact Pick.hd | apply Pick.tl)); done)) | (apply Sub.app; focus ((repeat (first | exact Pick.hd | apply Pick.tl)); done)) | apply Sub.drop)); done) | ((repeat (first | rw [List.append_assoc] | rw [List.cons_append] | rw [List.nil_append] | rw [List.append_nil])); (repeat (first | exact Sub.refl | exact Sub.nil | apply Sub.emp | (apply Sub.cons; focus ((repeat (first | exact Pick.hd | apply Pick.tl)); done)) | (apply Sub.con; focus ((repeat (first | exact Pick.hd | apply Pick.tl)); done)) | (apply Sub.app; focus ((repeat (first | exact Pick.hd | apply Pick.tl)); done)) | apply Sub.drop)); done))) ⟨by simp [hxy], rfl⟩
theorem keys_spec (hl : sumB es ≤ 900000000) (hn : es.length ≤ 100000000) (hw : Owns e w As) (hA : Has e As A) (hC : CatM c lv es A) :
    Calls Tryz.prog 27 #[.pointer (some ⟨c, 0, none⟩), S pre] w (Ret e fun u Bs => ∃ A', Row 9 1 u ((sk es).filter (Kit.hasPre pre)).length (((sk es).filter (Kit.hasPre pre)).map S) A' ∧ Bs = A' :: As) := by
  obtain ⟨mb, ob, hM, rfl⟩ := hC
  have hkl : ∀ x ∈ es.map cv, x.1.length ≤ 1000000000 := fun x hx => by
    obtain ⟨y, hy, rfl⟩ := List.mem_map.1 hx
    have := key_le hy
    show y.1.length ≤ _; omega
  have hke : (es.map cv).map Prod.fst = es.map Prod.fst := by rw [List.map_map]; rfl
  refine enter Tryz.func27 rfl Tryz.ntmps27 hw rfl ?_
  refine Cod.seq ?_
  refine Cod.region ?_
  refine Ops.val (opV_assign rfl) rfl ?_
  refine Ops.nil ?_
  refine Ex.next ?_
  refine Cod.seq ?_
  refine Cod.seq ?_
  refine Cod.region ?_
  refine Ops.val (opV_move rfl) rfl ?_
  refine Ops.val (opV_nil rfl) rfl ?_
  refine Ops.val (opV_field Fx.fld_154_1 rfl) rfl ?_
  refine Ops.val (opV_load Fx.scal_149 rfl (cellOf hA (List.Mem.head _) rfl)) rfl ?_
  refine Ops.call rfl (opC_call Fx.cal_81 rfl (fun w hw => Keys.keys81 hw hA)) rfl ?_
  rintro v11 _ ⟨q, rfl, rfl⟩
  refine Ops.call rfl (opC_call Fx.cal_80 rfl (fun w hw => Keys.sorted81 (kvs := es.map cv) hw (.mem (by repeat (first | exact List.Mem.head _ | apply List.Mem.tail))) (List.Mem.head _) hA.up (.tail _ (.head _)) hM (by simp; omega) hkl)) rfl ?_
  rintro v12 _ ⟨ns, AN, hAN, hns, rfl⟩
  rw [hke] at hns
  obtain rfl : ns = sk es := hns
  refine Ops.val (opV_len Fx.sl_67 rfl hAN.isSlice) rfl ?_
  have hsl := sk_len es
  refine Ops.val (opV_move rfl) rfl ?_
  refine Ops.nil ?_
  refine Ex.next ?_
  refine Cod.block ?_
  refine Cod.loop (X := Nat × Value × Hp) (fun (i, u, A2) => [(1, S pre), (4, u), (12, v12), (13, .int .i64 (sk es).length), (14, .int .i64 (i : Int))]) (fun (i, u, A2) => A2 :: AN :: As) (fun (i, u, A2) => i ≤ (sk es).length ∧ Row 9 1 u (((sk es).take i).filter (Kit.hasPre pre)).length ((((sk es).take i).filter (Kit.hasPre pre)).map S) A2) (fun (i, u, A2) => (sk es).length - i) ((0, .slice none 0 0, [])) (⟨Nat.zero_le _, Row.nil _ _⟩) (by repeat (first | exact trivial | refine ⟨rfl, ?_⟩)) (fun _ h => h.subs (by first | ((repeat (first | exact Sub.refl | exact Sub.nil | apply Sub.emp | (apply Sub.cons; focus ((repeat (first | exact Pick.hd | apply Pick.tl)); done)) | (apply Sub.con; focus ((repeat (first | exact Pick.hd | apply Pick.tl)); done)) | (apply Sub.app; focus ((repeat (first | exact Pick.hd | apply Pick.tl)); done)) | apply Sub.drop)); done) | ((repeat (first | rw [List.append_assoc] | rw [List.cons_append] | rw [List.nil_append] | rw [List.append_nil])); (repeat (first | exact Sub.refl | exact Sub.nil | apply Sub.emp | (apply Sub.cons; focus ((repeat (first | exact Pick.hd | apply Pick.tl)); done)) | (apply Sub.con; focus ((repeat (first | exact Pick.hd | apply Pick.tl)); done)) | (apply Sub.app; focus ((repeat (first | exact Pick.hd | apply Pick.tl)); done)) | apply Sub.drop)); done))) ?_
  rintro ⟨i, u, A2⟩ ⟨hi, hA2⟩
  try dsimp only
  refine Cod.seq ?_
  refine Cod.region ?_
  refine Ops.val (opV_lss rfl rfl (by first | exact decide_eq_true (by omega) | exact decide_eq_false (by omega) | rfl)) rfl ?_
  refine Ops.nil ?_
  refine Ex.next ?_
  refine Cod.seq ?_
  refine Cod.cond rfl (fun hc => ?_) (fun hc => ?_)
  · try simp at hc
    obtain ⟨x, hx⟩ : ∃ x, (sk es)[i]? = some x := ⟨_, List.getElem?_eq_getElem (by omega)⟩
    have hfl : (((sk es).take i).filter (Kit.hasPre pre)).length ≤ (sk es).length := Nat.le_trans (List.length_filter_le _ _) (by simp; omega)
    have hxl : x.length ≤ 1000000000 := by
        have h1 := sk_mem.1 (List.mem_of_getElem? hx)
        obtain ⟨y, hy, rfl⟩ := List.mem_map.1 h1
        have := key_le hy; omega
    refine Cod.skip ?_
    refine Ex.next ?_
    refine Cod.seq ?_
    refine Cod.block ?_
    refine Cod.seq ?_
    refine Cod.region ?_
    refine Ops.val (opV_indexAddr Fx.sl_67 rfl hAN.sl (k := i) rfl (by omega)) rfl ?_
    refine Ops.val (opV_loadE Fx.scal_9 rfl hAN.sl (.mem (by repeat (first | exact List.Mem.head _ | apply List.Mem.tail))) (u := S x) (by simp [hx])) rfl ?_
    refine Ops.val (opV_assign rfl) rfl ?_
    refine Ops.nil ?_
    refine Ex.next ?_
    refine Cod.seq ?_
    refine Cod.region ?_
    refine Ops.val (opV_move rfl) rfl ?_
    refine Ops.val (opV_move rfl) rfl ?_
    refine Ops.call rfl (opC_call Fx.cal_82 rfl (fun w hw => Kit.hasPrefix (s := x) (t := pre) hxl hw)) rfl ?_
    rintro v20 _ ⟨rfl, rfl⟩
    refine Ops.nil ?_
    refine Ex.next ?_
    refine Cod.cond rfl (fun hp => ?_) (fun hp => ?_)
    · try simp at hp
      refine Cod.region ?_
      refine Ops.val (opV_move rfl) rfl ?_
      refine Ops.val (opV_move rfl) rfl ?_
      refine Ops.eff rfl (opE_buildSlice Fx.sl_67 rfl rfl (by first | (simp [fillL, rowCells, vcells, putAt]; rfl) | (simp [fillL, rowCells, vcells, putAt]; done) | rfl)) rfl ?_
      rintro _ _ ⟨b23, rfl, rfl⟩
      refine Ops.eff rfl (opE_append Fx.sl_67 rfl Fx.ni_67 rfl rfl (by repeat (first | exact Pick.hd | apply Pick.tl)) hA2 (one_src (.mem (by repeat (first | exact List.Mem.head _ | apply List.Mem.tail))) rfl (by simp [Value.oneCell'])) (by omega) (by simp [maxLen]; omega)) rfl ?_
      rintro v24 _ ⟨A24, hA24, rfl⟩
      refine Ops.val (opV_assign rfl) rfl ?_
      refine Ops.nil ?_
      refine Ex.blockNormal ?_
      refine Ex.next ?_
      refine Cod.region ?_
      refine Ops.val (opV_add64 rfl rfl (by omega)) rfl ?_
      refine Ops.val (opV_move rfl) rfl ?_
      refine Ops.nil ?_
      refine Ex.toN (fun _ _ hs => ⟨(i + 1, v24, A24), ⟨by dsimp only; omega, by rw [List.take_add_one, hx, List.filter_append]; simpa [hp] using hA24⟩, (by first | omega | (dsimp only; omega) | (simp; omega) | (simp; done)), hs⟩) (by repeat (first | exact trivial | refine ⟨rfl, ?_⟩)) (fun _ h => h.subs (by first | ((repeat (first | exact Sub.refl | exact Sub.nil | apply Sub.emp | (apply Sub.cons; focus ((repeat (first | exact Pick.hd | apply Pick.tl)); done)) | (apply Sub.con; focus ((repeat (first | exact Pick.hd | apply Pick.tl)); done)) | (apply Sub.app; focus ((repeat (first | exact Pick.hd | apply Pick.tl)); done)) | apply Sub.drop)); done) | ((repeat (first | rw [List.append_assoc] | rw [List.cons_append] | rw [List.nil_append] | rw [List.append_nil])); (repeat (first | exact Sub.refl | exact Sub.nil | apply Sub.emp | (apply Sub.cons; focus ((repeat (first | exact Pick.hd | apply Pick.tl)); done)) | (apply Sub.con; focus ((repeat (first | exact Pick.hd | apply Pick.tl)); done)) | (apply Sub.app; focus ((repeat (first | exact Pick.hd | apply Pick.tl)); done)) | apply Sub.drop)); done)))
    · try simp at hp
      refine Cod.skip ?_
      refine Ex.blockNormal ?_
      refine Ex.next ?_
      refine Cod.region ?_
      refine Ops.val (opV_add64 rfl rfl (by omega)) rfl ?_
      refine Ops.val (opV_move rfl) rfl ?_
      refine Ops.nil ?_
      refine Ex.toN (fun _ _ hs => ⟨(i + 1, u, A2), ⟨by dsimp only; omega, by rw [List.take_add_one, hx, List.filter_append]; simpa [hp] using hA2⟩, (by first | omega | (dsimp only; omega) | (simp; omega) | (simp; done)), hs⟩) (by repeat (first | exact trivial | refine ⟨rfl, ?_⟩)) (fun _ h => h.subs (by first | ((repeat (first | exact Sub.refl | exact Sub.nil | apply Sub.emp | (apply Sub.cons; focus ((repeat (first | exact Pick.hd | apply Pick.tl)); done)) | (apply Sub.con; focus ((repeat (first | exact Pick.hd | apply Pick.tl)); done)) | (apply Sub.app; focus ((repeat (first | exact Pick.hd | apply Pick.tl)); done)) | apply Sub.drop)); done) | ((repeat (first | rw [List.append_assoc] | rw [List.cons_append] | rw [List.nil_append] | rw [List.append_nil])); (repeat (first | exact Sub.refl | exact Sub.nil | apply Sub.emp | (apply Sub.cons; focus ((repeat (first | exact Pick.hd | apply Pick.tl)); done)) | (apply Sub.con; focus ((repeat (first | exact Pick.hd | apply Pick.tl)); done)) | (apply Sub.app; focus ((repeat (first | exact Pick.hd | apply Pick.tl)); done)) | apply Sub.drop)); done)))
  · try simp at hc
    obtain rfl : i = (sk es).length := by omega
    rw [List.take_length] at hA2
    refine Cod.exit ?_
    refine Ex.thenExit ?_
    refine Ex.thenExit ?_
    refine Ex.blockHit ?_
    refine Ex.next ?_
    refine Cod.seq ?_
    refine Cod.region ?_
    refine Ops.val (opV_move rfl) rfl ?_
    refine Ops.val (opV_assign rfl) rfl ?_
    refine Ops.nil ?_
    refine Ex.next ?_
    refine Cod.ret ?_
    exact Ex.ret1 rfl rfl (fun _ h => h.subs (by first | ((repeat (first | exact Sub.refl | exact Sub.nil | apply Sub.emp | (apply Sub.cons; focus ((repeat (first | exact Pick.hd | apply Pick.tl)); done)) | (apply Sub.con; focus ((repeat (first | exact Pick.hd | apply Pick.tl)); done)) | (apply Sub.app; focus ((repeat (first | exact Pick.hd | apply Pick.tl)); done)) | apply Sub.drop)); done) | ((repeat (first | rw [List.append_assoc] | rw [List.cons_append] | rw [List.nil_append] | rw [List.append_nil])); (repeat (first | exact Sub.refl | exact Sub.nil | apply Sub.emp | (apply Sub.cons; focus ((repeat (first | exact Pick.hd | apply Pick.tl)); done)) | (apply Sub.con; focus ((repeat (first | exact Pick.hd | apply Pick.tl)); done)) | (apply Sub.app; focus ((repeat (first | exact Pick.hd | apply Pick.tl)); done)) | apply Sub.drop)); done))) ⟨A2, hA2, rfl⟩
theorem filter_nil (l : List Str) : l.filter (Kit.hasPre []) = l := List.filter_eq_self.2 fun x _ => by simp [Kit.hasPre]
theorem pairs_spec (hl : sumB es ≤ 900000000) (hn : es.length ≤ 100000000) (hw : Owns e w As) (hA : Has e As A) (hC : CatM c lv es A) :
    Calls Tryz.prog 19 #[.pointer (some ⟨c, 0, none⟩)] w (Ret e fun u Bs => ∃ A', Row 74 2 u (pairsOf es).length (prs (pairsOf es)) A' ∧ Bs = A' :: As) := by
  have hC0 := hC
  obtain ⟨mb, ob, hM, hAe⟩ := hC0
  have hsl := sk_len es
  have hpl := pairs_len es
  refine enter Tryz.func19 rfl Tryz.ntmps19 hw rfl ?_
  refine Cod.seq ?_
  refine Cod.region ?_
  refine Ops.val (opV_assign rfl) rfl ?_
  refine Ops.nil ?_
  refine Ex.next ?_
  refine Cod.seq ?_
  refine Cod.seq ?_
  refine Cod.region ?_
  refine Ops.val (opV_move rfl) rfl ?_
  refine Ops.call rfl (opC_call Fx.cal_27 rfl (fun w hw => keys_spec (pre := []) hl hn hw hA hC)) rfl ?_
  rintro v6 _ ⟨AN, hAN, rfl⟩
  rw [filter_nil] at hAN
  refine Ops.val (opV_len Fx.sl_67 rfl hAN.isSlice) rfl ?_
  refine Ops.val (opV_move rfl) rfl ?_
  refine Ops.nil ?_
  refine Ex.next ?_
  refine Cod.block ?_
  refine Cod.loop (X := Nat × Value × Hp) (fun (i, u, A2) => [(0, .pointer (some ⟨c, 0, none⟩)), (2, u), (6, v6), (7, .int .i64 (sk es).length), (8, .int .i64 (i : Int))]) (fun (i, u, A2) => A2 :: AN :: As) (fun (i, u, A2) => i ≤ (sk es).length ∧ Row 74 2 u ((pairsOf es).take i).length (prs ((pairsOf es).take i)) A2) (fun (i, u, A2) => (sk es).length - i) ((0, .slice none 0 0, [])) (⟨Nat.zero_le _, Row.nil _ _⟩) (by repeat (first | exact trivial | refine ⟨rfl, ?_⟩)) (fun _ h => h.subs (by first | ((repeat (first | exact Sub.refl | exact Sub.nil | apply Sub.emp | (apply Sub.cons; focus ((repeat (first | exact Pick.hd | apply Pick.tl)); done)) | (apply Sub.con; focus ((repeat (first | exact Pick.hd | apply Pick.tl)); done)) | (apply Sub.app; focus ((repeat (first | exact Pick.hd | apply Pick.tl)); done)) | apply Sub.drop)); done) | ((repeat (first | rw [List.append_assoc] | rw [List.cons_append] | rw [List.nil_append] | rw [List.append_nil])); (repeat (first | exact Sub.refl | exact Sub.nil | apply Sub.emp | (apply Sub.cons; focus ((repeat (first | exact Pick.hd | apply Pick.tl)); done)) | (apply Sub.con; focus ((repeat (first | exact Pick.hd | apply Pick.tl)); done)) | (apply Sub.app; focus ((repeat (first | exact Pick.hd | apply Pick.tl)); done)) | apply Sub.drop)); done))) ?_
  rintro ⟨i, u, A2⟩ ⟨hi, hA2⟩
  try dsimp only
  refine Cod.seq ?_
  refine Cod.region ?_
  refine Ops.val (opV_lss rfl rfl (by first | exact decide_eq_true (by omega) | exact decide_eq_false (by omega) | rfl)) rfl ?_
  refine Ops.nil ?_
  refine Ex.next ?_
  refine Cod.seq ?_
  refine Cod.cond rfl (fun hc => ?_) (fun hc => ?_)
  · try simp at hc
    obtain ⟨x, hx⟩ : ∃ x, (sk es)[i]? = some x := ⟨_, List.getElem?_eq_getElem (by omega)⟩
    obtain ⟨vx, hvx⟩ : ∃ v, lkp x es = some v := by
        cases hq : lkp x es with
        | none => exact absurd (sk_mem.1 (List.mem_of_getElem? hx)) (lkp_none.1 hq)
        | some v => exact ⟨v, rfl⟩
    have hps := pairs_succ hx
    rw [hvx] at hps
    have htl : ((pairsOf es).take i).length ≤ es.length := by simp [hpl]; omega
    refine Cod.skip ?_
    refine Ex.next ?_
    refine Cod.seq ?_
    refine Cod.block ?_
    refine Cod.seq ?_
    refine Cod.region ?_
    refine Ops.val (opV_indexAddr Fx.sl_67 rfl hAN.sl (k := i) rfl (by omega)) rfl ?_
    refine Ops.val (opV_loadE Fx.scal_9 rfl hAN.sl (.mem (by repeat (first | exact List.Mem.head _ | apply List.Mem.tail))) (u := S x) (by simp [hx])) rfl ?_
    refine Ops.val (opV_assign rfl) rfl ?_
    refine Ops.nil ?_
    refine Ex.next ?_
    refine Cod.region ?_
    refine Ops.val (opV_move rfl) rfl ?_
    refine Ops.val (opV_move rfl) rfl ?_
    refine Ops.val (opV_move rfl) rfl ?_
    refine Ops.val (opV_nil rfl) rfl ?_
    refine Ops.val (opV_field Fx.fld_154_1 rfl) rfl ?_
    refine Ops.val (opV_load Fx.scal_149 rfl (cellOf (i := 1) hA.up.up (hAe ▸ List.Mem.head _) rfl)) rfl ?_
    refine Ops.val (opV_move rfl) rfl ?_
    refine Ops.val (opV_lookup (κ := Str) Fx.map_149 rfl rfl hA.up.up (hAe ▸ .tail _ (.head _)) hM) rfl ?_
    rw [cv_lkp, hvx]
    refine Ops.val (opV_fieldV Fx.fv_152_0 rfl rfl) rfl ?_
    refine Ops.val (opV_build Fx.st_74 rfl (by first | (simp [fillL, vcells, putAt]; rfl) | (simp [fillL, vcells, putAt]; done) | rfl)) rfl ?_
    refine Ops.eff rfl (opE_buildSlice Fx.sl_47 rfl rfl (by first | (simp [fillL, rowCells, vcells, putAt]; rfl) | (simp [fillL, rowCells, vcells, putAt]; done) | rfl)) rfl ?_
    rintro _ _ ⟨b22, rfl, rfl⟩
    refine Ops.eff rfl (opE_append Fx.sl_47 rfl Fx.ni_47 rfl rfl (by repeat (first | exact Pick.hd | apply Pick.tl)) hA2 (one_src (.mem (by repeat (first | exact List.Mem.head _ | apply List.Mem.tail))) rfl (by simp [Value.oneCell'])) (by omega) (by simp [maxLen]; omega)) rfl ?_
    rintro v23 _ ⟨A23, hA23, rfl⟩
    refine Ops.val (opV_assign rfl) rfl ?_
    refine Ops.nil ?_
    refine Ex.blockNormal ?_
    refine Ex.next ?_
    refine Cod.region ?_
    refine Ops.val (opV_add64 rfl rfl (by omega)) rfl ?_
    refine Ops.val (opV_move rfl) rfl ?_
    refine Ops.nil ?_
    refine Ex.toN (fun _ _ hs => ⟨(i + 1, v23, A23), ⟨by dsimp only; omega, by dsimp only; rw [hps]; simpa [prs, prV] using hA23⟩, (by first | omega | (dsimp only; omega) | (simp; omega) | (simp; done)), hs⟩) (by repeat (first | exact trivial | refine ⟨rfl, ?_⟩)) (fun _ h => h.subs (by first | ((repeat (first | exact Sub.refl | exact Sub.nil | apply Sub.emp | (apply Sub.cons; focus ((repeat (first | exact Pick.hd | apply Pick.tl)); done)) | (apply Sub.con; focus ((repeat (first | exact Pick.hd | apply Pick.tl)); done)) | (apply Sub.app; focus ((repeat (first | exact Pick.hd | apply Pick.tl)); done)) | apply Sub.drop)); done) | ((repeat (first | rw [List.append_assoc] | rw [List.cons_append] | rw [List.nil_append] | rw [List.append_nil])); (repeat (first | exact Sub.refl | exact Sub.nil | apply Sub.emp | (apply Sub.cons; focus ((repeat (first | exact Pick.hd | apply Pick.tl)); done)) | (apply Sub.con; focus ((repeat (first | exact Pick.hd | apply Pick.tl)); done)) | (apply Sub.app; focus ((repeat (first | exact Pick.hd | apply Pick.tl)); done)) | apply Sub.drop)); done)))
  · try simp at hc
    obtain rfl : i = (sk es).length := by omega
    rw [List.take_of_length_le (by rw [hpl]; omega)] at hA2
    refine Cod.exit ?_
    refine Ex.thenExit ?_
    refine Ex.thenExit ?_
    refine Ex.blockHit ?_
    refine Ex.next ?_
    refine Cod.seq ?_
    refine Cod.region ?_
    refine Ops.val (opV_move rfl) rfl ?_
    refine Ops.val (opV_assign rfl) rfl ?_
    refine Ops.nil ?_
    refine Ex.next ?_
    refine Cod.ret ?_
    exact Ex.ret1 rfl rfl (fun _ h => h.subs (by first | ((repeat (first | exact Sub.refl | exact Sub.nil | apply Sub.emp | (apply Sub.cons; focus ((repeat (first | exact Pick.hd | apply Pick.tl)); done)) | (apply Sub.con; focus ((repeat (first | exact Pick.hd | apply Pick.tl)); done)) | (apply Sub.app; focus ((repeat (first | exact Pick.hd | apply Pick.tl)); done)) | apply Sub.drop)); done) | ((repeat (first | rw [List.append_assoc] | rw [List.cons_append] | rw [List.nil_append] | rw [List.append_nil])); (repeat (first | exact Sub.refl | exact Sub.nil | apply Sub.emp | (apply Sub.cons; focus ((repeat (first | exact Pick.hd | apply Pick.tl)); done)) | (apply Sub.con; focus ((repeat (first | exact Pick.hd | apply Pick.tl)); done)) | (apply Sub.app; focus ((repeat (first | exact Pick.hd | apply Pick.tl)); done)) | apply Sub.drop)); done))) ⟨A2, hA2, rfl⟩
end
end Go.Proofs.YteejmoldhbfdnaaGreatDoor.Cat2
