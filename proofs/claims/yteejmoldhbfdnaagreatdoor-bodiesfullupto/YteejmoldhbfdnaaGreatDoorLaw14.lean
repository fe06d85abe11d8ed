/- warrenlaw14: the law's own functions; stores that are opened on an empty disk. -/
import Derived.Test.YteejmoldhbfdnaaGreatDoorBod4
set_option maxRecDepth 8000
namespace Go.Proofs.YteejmoldhbfdnaaGreatDoor.Law14
open Go.W Go.RowKit Lib1 Oct OctR Seal Disk Disk2 Wal Num Wal2 Wal3 Bod Bod2 Bod3 Bod4
namespace Fx
theorem cal_139 : callable Tryz.prog 139 = true := by kernel_rfl
theorem cal_22 : callable Tryz.prog 22 = true := by kernel_rfl
theorem cal_60 : callable Tryz.prog 60 = true := by kernel_rfl
theorem cal_75 : callable Tryz.prog 75 = true := by kernel_rfl
theorem cal_86 : callable Tryz.prog 86 = true := by kernel_rfl
theorem fld_129_1 : fieldOff Tryz.prog 129 1 = some 1 := by kernel_rfl
theorem ni_29 : notInt Tryz.prog 29 = true := by kernel_rfl
theorem ptr_24 : ptrT Tryz.prog 24 = true := by kernel_rfl
theorem scal_126 : scalarB Tryz.prog 126 = true := by kernel_rfl
theorem scal_3 : scalarB Tryz.prog 3 = true := by kernel_rfl
theorem sl_29 : slInfo Tryz.prog 29 = some (5, 1, 1, some (.int .u8 0)) := by kernel_rfl
theorem sl_56 : slInfo Tryz.prog 56 = some (159, 2, 40, some (.agg #[(S []), (.slice none 0 0)])) := by kernel_rfl
theorem sl_67 : slInfo Tryz.prog 67 = some (9, 1, 16, some (S [])) := by kernel_rfl
theorem sl_77 : slInfo Tryz.prog 77 = some (3, 1, 8, some (.int .i64 0)) := by kernel_rfl
theorem st_129 : stInfo Tryz.prog 129 = some (#[(.pointer none), (.map none), (.map none), (.int .i64 0), (.int .i64 0)], #[(0, 1), (1, 1), (2, 1), (3, 1), (4, 1)]) := by kernel_rfl
theorem st_144 : stInfo Tryz.prog 144 = some (#[(.map none), (.slice none 0 0), (.int .i64 0), (.int .i64 0)], #[(0, 1), (1, 1), (2, 1), (3, 1)]) := by kernel_rfl
theorem und_5 : Tryz.prog.underlying 5 = some (.int .u8) := by kernel_rfl
theorem und_9 : Tryz.prog.underlying 9 = some .string := by kernel_rfl

end Fx
section
variable {e : Ctx} {w : World} {As F G : List Hp} {A B DA : Hp} {s d c p : Nat} {S : SK} {D : DK} {v u : Value} {a b : Str} {xs ys : List Int}
theorem clone {m : Nat} (hm : m = a.length) (hl : a.length ≤ 1000000000) (hw : Owns e w As) (hA : Has e As A) (hv : Sl A 1 v m (bcells a)) :
    Calls Tryz.prog 13 #[v] w (Ret e fun u Bs => ∃ A', Row 5 1 u a.length (bcells a) A' ∧ Bs = A' :: As) := by
  subst hm
  refine enter Tryz.func13 rfl Tryz.ntmps13 hw rfl ?_
  refine Cod.seq ?_
  refine Cod.region ?_
  refine Ops.val (opV_assign rfl) rfl ?_
  refine Ops.nil ?_
  refine Ex.next ?_
  refine Cod.seq ?_
  refine Cod.region ?_
  refine Ops.eff rfl (opE_buildSlice0 Fx.sl_29) rfl ?_
  rintro _ _ ⟨b3, rfl, rfl⟩
  refine Ops.val (opV_move rfl) rfl ?_
  refine Ops.eff rfl (opE_append Fx.sl_29 rfl Fx.ni_29 rfl rfl (by repeat (first | exact Pick.hd | apply Pick.tl)) (Row.made (n := 0) rfl (by simp [maxLen])) (hv.src (by repeat (first | assumption | apply Has.up)) (bcells_one _)) (by omega) (by simp [maxLen]; omega)) rfl ?_
  rintro v5 _ ⟨A5, hA5, rfl⟩
  refine Ops.val (opV_assign rfl) rfl ?_
  refine Ops.nil ?_
  refine Ex.next ?_
  refine Cod.ret ?_
  exact Ex.ret1 rfl rfl (fun _ h => h.subs (by first | ((repeat (first | exact Sub.refl | exact Sub.nil | apply Sub.emp | (apply Sub.cons; focus ((repeat (first | exact Pick.hd | apply Pick.tl)); done)) | (apply Sub.con; focus ((repeat (first | exact Pick.hd | apply Pick.tl)); done)) | (apply Sub.app; focus ((repeat (first | exact Pick.hd | apply Pick.tl)); done)) | apply Sub.drop)); done) | ((repeat (first | rw [List.append_assoc] | rw [List.cons_append] | rw [List.nil_append] | rw [List.append_nil])); (repeat (first | exact Sub.refl | exact Sub.nil | apply Sub.emp | (apply Sub.cons; focus ((repeat (first | exact Pick.hd | apply Pick.tl)); done)) | (apply Sub.con; focus ((repeat (first | exact Pick.hd | apply Pick.tl)); done)) | (apply Sub.app; focus ((repeat (first | exact Pick.hd | apply Pick.tl)); done)) | apply Sub.drop)); done))) ⟨A5, by simpa using hA5, rfl⟩
theorem same {m n : Nat} (hm : m = a.length) (hn : n = b.length) (hw : Owns e w As) (hA : Has e As A) (hB : Has e As B) (hv : Sl A 1 v m (bcells a)) (hu : Sl B 1 u n (bcells b)) :
    Calls Tryz.prog 32 #[v, u] w (Ret e fun u Bs => u = .bool (decide (a = b)) ∧ Bs = As) := by
  subst hm hn
  refine enter Tryz.func32 rfl Tryz.ntmps32 hw rfl ?_
  refine Cod.seq ?_
  refine Cod.region ?_
  refine Ops.val (opV_assign rfl) rfl ?_
  refine Ops.nil ?_
  refine Ex.next ?_
  refine Cod.seq ?_
  refine Cod.region ?_
  refine Ops.val (opV_move rfl) rfl ?_
  refine Ops.val (opV_tostr Fx.sl_29 Fx.und_9 Fx.und_5 rfl hv hA) rfl ?_
  refine Ops.val (opV_move rfl) rfl ?_
  refine Ops.val (opV_tostr Fx.sl_29 Fx.und_9 Fx.und_5 rfl hu hB) rfl ?_
  refine Ops.val (opV_seql rfl rfl rfl) rfl ?_
  refine Ops.val (opV_assign rfl) rfl ?_
  refine Ops.nil ?_
  refine Ex.next ?_
  refine Cod.ret ?_
  exact Ex.ret1 rfl rfl (fun _ h => h.subs (by first | ((repeat (first | exact Sub.refl | exact Sub.nil | apply Sub.emp | (apply Sub.cons; focus ((repeat (first | exact Pick.hd | apply Pick.tl)); done)) | (apply Sub.con; focus ((repeat (first | exact Pick.hd | apply Pick.tl)); done)) | (apply Sub.app; focus ((repeat (first | exact Pick.hd | apply Pick.tl)); done)) | apply Sub.drop)); done) | ((repeat (first | rw [List.append_assoc] | rw [List.cons_append] | rw [List.nil_append] | rw [List.append_nil])); (repeat (first | exact Sub.refl | exact Sub.nil | apply Sub.emp | (apply Sub.cons; focus ((repeat (first | exact Pick.hd | apply Pick.tl)); done)) | (apply Sub.con; focus ((repeat (first | exact Pick.hd | apply Pick.tl)); done)) | (apply Sub.app; focus ((repeat (first | exact Pick.hd | apply Pick.tl)); done)) | apply Sub.drop)); done))) ⟨rfl, rfl⟩
theorem sameInts (hw : Owns e w As) (hA : Has e As A) (hB : Has e As B) {m n : Nat} (hm : m = xs.length) (hn : n = ys.length) (hl : xs.length ≤ 1000000000) (hv : Sl A 1 v m (zcells xs)) (hu : Sl B 1 u n (zcells ys)) :
    Calls Tryz.prog 66 #[v, u] w (Ret e fun u Bs => u = .bool (decide (xs = ys)) ∧ Bs = As) := by
  subst hm hn
  refine enter Tryz.func66 rfl Tryz.ntmps66 hw rfl ?_
  refine Cod.seq ?_
  refine Cod.region ?_
  refine Ops.val (opV_assign rfl) rfl ?_
  refine Ops.nil ?_
  refine Ex.next ?_
  refine Cod.seq ?_
  refine Cod.seq ?_
  refine Cod.region ?_
  refine Ops.val (opV_move rfl) rfl ?_
  refine Ops.val (opV_len Fx.sl_77 rfl hv.isSlice) rfl ?_
  refine Ops.val (opV_move rfl) rfl ?_
  refine Ops.val (opV_len Fx.sl_77 rfl hu.isSlice) rfl ?_
  refine Ops.val (opV_neq rfl rfl (by first | exact decide_eq_true (by omega) | exact decide_eq_false (by omega) | rfl)) rfl ?_
  refine Ops.nil ?_
  refine Ex.next ?_
  refine Cod.cond rfl (fun hne => ?_) (fun hne => ?_)
  · try simp at hne
    refine Cod.seq ?_
    refine Cod.region ?_
    refine Ops.val (opV_assign rfl) rfl ?_
    refine Ops.nil ?_
    refine Ex.next ?_
    refine Cod.ret ?_
    refine Ex.thenRet ?_
    exact Ex.ret1 rfl rfl (fun _ h => h.subs (by first | ((repeat (first | exact Sub.refl | exact Sub.nil | apply Sub.emp | (apply Sub.cons; focus ((repeat (first | exact Pick.hd | apply Pick.tl)); done)) | (apply Sub.con; focus ((repeat (first | exact Pick.hd | apply Pick.tl)); done)) | (apply Sub.app; focus ((repeat (first | exact Pick.hd | apply Pick.tl)); done)) | apply Sub.drop)); done) | ((repeat (first | rw [List.append_assoc] | rw [List.cons_append] | rw [List.nil_append] | rw [List.append_nil])); (repeat (first | exact Sub.refl | exact Sub.nil | apply Sub.emp | (apply Sub.cons; focus ((repeat (first | exact Pick.hd | apply Pick.tl)); done)) | (apply Sub.con; focus ((repeat (first | exact Pick.hd | apply Pick.tl)); done)) | (apply Sub.app; focus ((repeat (first | exact Pick.hd | apply Pick.tl)); done)) | apply Sub.drop)); done))) ⟨by simp; intro q; subst q; simp at hne, rfl⟩
  · try simp at hne
    refine Cod.skip ?_
    refine Ex.next ?_
    refine Cod.seq ?_
    refine Cod.seq ?_
    refine Cod.region ?_
    refine Ops.val (opV_assign rfl) rfl ?_
    refine Ops.nil ?_
    refine Ex.next ?_
    refine Cod.block ?_
    refine Cod.loop (X := Nat) (fun i => [(0, v), (1, u), (5, .int .i64 (i : Int))]) (fun i => As) (fun i => i ≤ xs.length ∧ xs.take i = ys.take i) (fun i => xs.length - i) (0) (⟨Nat.zero_le _, rfl⟩) (by repeat (first | exact trivial | refine ⟨rfl, ?_⟩)) (fun _ h => h.subs (by first | ((repeat (first | exact Sub.refl | exact Sub.nil | apply Sub.emp | (apply Sub.cons; focus ((repeat (first | exact Pick.hd | apply Pick.tl)); done)) | (apply Sub.con; focus ((repeat (first | exact Pick.hd | apply Pick.tl)); done)) | (apply Sub.app; focus ((repeat (first | exact Pick.hd | apply Pick.tl)); done)) | apply Sub.drop)); done) | ((repeat (first | rw [List.append_assoc] | rw [List.cons_append] | rw [List.nil_append] | rw [List.append_nil])); (repeat (first | exact Sub.refl | exact Sub.nil | apply Sub.emp | (apply Sub.cons; focus ((repeat (first | exact Pick.hd | apply Pick.tl)); done)) | (apply Sub.con; focus ((repeat (first | exact Pick.hd | apply Pick.tl)); done)) | (apply Sub.app; focus ((repeat (first | exact Pick.hd | apply Pick.tl)); done)) | apply Sub.drop)); done))) ?_
    rintro i ⟨hi, ht⟩
    try dsimp only
    refine Cod.seq ?_
    refine Cod.seq ?_
    refine Cod.region ?_
    refine Ops.val (opV_move rfl) rfl ?_
    refine Ops.val (opV_move rfl) rfl ?_
    refine Ops.val (opV_len Fx.sl_77 rfl hv.isSlice) rfl ?_
    refine Ops.val (opV_lss rfl rfl (by first | exact decide_eq_true (by omega) | exact decide_eq_false (by omega) | rfl)) rfl ?_
    refine Ops.nil ?_
    refine Ex.next ?_
    refine Cod.cond rfl (fun hc => ?_) (fun hc => ?_)
    · try simp at hc
      obtain ⟨x, hx⟩ : ∃ x, xs[i]? = some x := ⟨_, List.getElem?_eq_getElem (by omega)⟩
      obtain ⟨y, hy⟩ : ∃ y, ys[i]? = some y := ⟨_, List.getElem?_eq_getElem (by omega)⟩
      refine Cod.skip ?_
      refine Ex.next ?_
      refine Cod.seq ?_
      refine Cod.block ?_
      refine Cod.seq ?_
      refine Cod.draw0 [3, 7] [0, 1, 2, 4, 5, 6, 8] [0, 1, 2, 3, 4, 5, 6, 7, 8] M.mixed (by kernel_rfl) ?_
      refine AnyJ.valU rfl rfl rfl (opV_move rfl) rfl (fun _ _ _ h => h.2.elim) ?_
      refine AnyJ.valU rfl rfl rfl (opV_move rfl) rfl (fun _ _ _ h => h.2.elim) ?_
      refine AnyJ.valU rfl rfl rfl (opV_indexAddr Fx.sl_77 rfl hv (k := i) rfl (by omega)) rfl (fun _ _ _ h => h.2.elim) ?_
      refine AnyJ.val rfl rfl (opV_loadE Fx.scal_3 rfl hv hA (u := .int .i64 x) (by simp [hx])) rfl (fun _ _ _ h => h.2.elim) (fun _ h => h) ?_
      refine AnyJ.valU rfl rfl rfl (opV_move rfl) rfl (fun _ _ _ h => h.2.elim) ?_
      refine AnyJ.valU rfl rfl rfl (opV_move rfl) rfl (fun _ _ _ h => h.2.elim) ?_
      refine AnyJ.valU rfl rfl rfl (opV_indexAddr Fx.sl_77 rfl hu (k := i) rfl (by omega)) rfl (fun _ _ _ h => h.2.elim) ?_
      refine AnyJ.val rfl rfl (opV_loadE Fx.scal_3 rfl hu hB (u := .int .i64 y) (by simp [hy])) rfl (fun _ _ _ h => h.2.elim) (fun _ h => h) ?_
      refine AnyJ.valU rfl rfl rfl (opV_neq rfl rfl rfl) rfl (fun _ _ _ h => h.2.elim) ?_
      refine AnyJ.nil ?_
      refine Ex.next ?_
      refine Cod.cond rfl (fun hxy => ?_) (fun hxy => ?_)
      · try simp at hxy
        refine Cod.seq ?_
        refine Cod.region ?_
        refine Ops.val (opV_assign rfl) rfl ?_
        refine Ops.nil ?_
        refine Ex.next ?_
        refine Cod.ret ?_
        refine Ex.blockRet ?_
        refine Ex.thenRet ?_
        refine Ex.thenRet ?_
        refine Ex.blockRet ?_
        refine Ex.thenRet ?_
        exact Ex.ret1 rfl rfl (fun _ h => h.subs (by first | ((repeat (first | exact Sub.refl | exact Sub.nil | apply Sub.emp | (apply Sub.cons; focus ((repeat (first | exact Pick.hd | apply Pick.tl)); done)) | (apply Sub.con; focus ((repeat (first | exact Pick.hd | apply Pick.tl)); done)) | (apply Sub.app; focus ((repeat (first | exact Pick.hd | apply Pick.tl)); done)) | apply Sub.drop)); done) | ((repeat (first | rw [List.append_assoc] | rw [List.cons_append] | rw [List.nil_append] | rw [List.append_nil])); (repeat (first | exact Sub.refl | exact Sub.nil | apply Sub.emp | (apply Sub.cons; focus ((repeat (first | exact Pick.hd | apply Pick.tl)); done)) | (apply Sub.con; focus ((repeat (first | exact Pick.hd | apply Pick.tl)); done)) | (apply Sub.app; focus ((repeat (first | exact Pick.hd | apply Pick.tl)); done)) | apply Sub.drop)); done))) ⟨by simp; intro q; subst q; rw [hx] at hy; cases hy; exact hxy rfl, rfl⟩
      · try simp at hxy
        refine Cod.skip ?_
        refine Ex.blockNormal ?_
        refine Ex.next ?_
        refine Cod.region ?_
        refine Ops.val (opV_move rfl) rfl ?_
        refine Ops.val (opV_add64 rfl rfl (by omega)) rfl ?_
        refine Ops.val (opV_assign rfl) rfl ?_
        refine Ops.nil ?_
        refine Ex.toN (fun _ _ hs => ⟨i + 1, ⟨by omega, by rw [List.take_add_one, List.take_add_one, ht, hx, hy]; rw [hxy]⟩, (by first | omega | (dsimp only; omega) | (simp; omega) | (simp; done)), hs⟩) (by repeat (first | exact trivial | refine ⟨rfl, ?_⟩)) (fun _ h => h.subs (by first | ((repeat (first | exact Sub.refl | exact Sub.nil | apply Sub.emp | (apply Sub.cons; focus ((repeat (first | exact Pick.hd | apply Pick.tl)); done)) | (apply Sub.con; focus ((repeat (first | exact Pick.hd | apply Pick.tl)); done)) | (apply Sub.app; focus ((repeat (first | exact Pick.hd | apply Pick.tl)); done)) | apply Sub.drop)); done) | ((repeat (first | rw [List.append_assoc] | rw [List.cons_append] | rw [List.nil_append] | rw [List.append_nil])); (repeat (first | exact Sub.refl | exact Sub.nil | apply Sub.emp | (apply Sub.cons; focus ((repeat (first | exact Pick.hd | apply Pick.tl)); done)) | (apply Sub.con; focus ((repeat (first | exact Pick.hd | apply Pick.tl)); done)) | (apply Sub.app; focus ((repeat (first | exact Pick.hd | apply Pick.tl)); done)) | apply Sub.drop)); done)))
    · try simp at hc
      obtain rfl : i = xs.length := by omega
      have hlen : xs.length = ys.length := by omega
      have hxy : xs = ys := by rw [List.take_length, hlen, List.take_length] at ht; exact ht
      refine Cod.exit ?_
      refine Ex.thenExit ?_
      refine Ex.thenExit ?_
      refine Ex.blockHit ?_
      refine Ex.next ?_
      refine Cod.seq ?_
      refine Cod.region ?_
      refine Ops.val (opV_assign rfl) rfl ?_
      refine Ops.nil ?_
      refine Ex.next ?_
      refine Cod.ret ?_
      exact Ex.ret1 rfl rfl (fun _ h => h.subs (by first | ((repeat (first | exact Sub.refl | exact Sub.nil | apply Sub.emp | (apply Sub.cons; focus ((repeat (first | exact Pick.hd | apply Pick.tl)); done)) | (apply Sub.con; focus ((repeat (first | exact Pick.hd | apply Pick.tl)); done)) | (apply Sub.app; focus ((repeat (first | exact Pick.hd | apply Pick.tl)); done)) | apply Sub.drop)); done) | ((repeat (first | rw [List.append_assoc] | rw [List.cons_append] | rw [List.nil_append] | rw [List.append_nil])); (repeat (first | exact Sub.refl | exact Sub.nil | apply Sub.emp | (apply Sub.cons; focus ((repeat (first | exact Pick.hd | apply Pick.tl)); done)) | (apply Sub.con; focus ((repeat (first | exact Pick.hd | apply Pick.tl)); done)) | (apply Sub.app; focus ((repeat (first | exact Pick.hd | apply Pick.tl)); done)) | apply Sub.drop)); done))) ⟨by simp [hxy], rfl⟩

/-! ### An empty disk, an empty store -/
theorem diskOpen {r : Int} (hw : Owns e w As) : Calls Tryz.prog 22 #[.slice none 0 0, .int .i64 r] w
    (Ret e fun u Bs => ∃ p A', u = .tuple #[.pointer (some ⟨p, 0, none⟩), .int .i64 0] ∧ DiskA p ⟨[], [], r⟩ A' ∧ Bs = A' :: As) := by
  refine enter Tryz.func22 rfl Tryz.ntmps22 hw rfl ?_
  refine Cod.seq ?_
  refine Cod.region ?_
  refine Ops.val (opV_assign rfl) rfl ?_
  refine Ops.val (opV_assign rfl) rfl ?_
  refine Ops.nil ?_
  refine Ex.next ?_
  refine Cod.seq ?_
  refine Cod.region ?_
  refine Ops.eff rfl opE_makeMap rfl ?_
  rintro _ _ ⟨b10, rfl, rfl⟩
  refine Ops.val (opV_move rfl) rfl ?_
  refine Ops.val (opV_build Fx.st_144 rfl (by first | (simp [fillL, vcells, putAt]; rfl) | (simp [fillL, vcells, putAt]; done) | rfl)) rfl ?_
  refine Ops.eff rfl (opE_box rfl) rfl ?_
  rintro _ _ ⟨b13, rfl, rfl⟩
  refine Ops.val (opV_assign rfl) rfl ?_
  refine Ops.nil ?_
  refine Ex.next ?_
  refine Cod.seq ?_
  refine Cod.region ?_
  refine Ops.val (opV_assign rfl) rfl ?_
  refine Ops.nil ?_
  refine Ex.next ?_
  refine Cod.seq ?_
  refine Cod.seq ?_
  refine Cod.region ?_
  refine Ops.val (opV_move rfl) rfl ?_
  refine Ops.val (opV_len Fx.sl_56 rfl (by first | exact ⟨_, _, rfl⟩ | exact Sl.isSlice (by assumption) | exact (Row.sl (by assumption)).isSlice)) rfl ?_
  refine Ops.val (opV_move rfl) rfl ?_
  refine Ops.nil ?_
  refine Ex.next ?_
  refine Cod.block ?_
  refine Cod.loop (X := Unit) (fun _ => [(6, .pointer (some ⟨b13, 0, none⟩)), (14, .slice none 0 0), (15, .int .i64 0), (16, .int .i64 0)]) (fun _ => [(b13, .cells #[.map (some b10), .slice none 0 0, .int .i64 r, .int .i64 0] 144)] :: [(b10, .map #[] 0)] :: As) (fun _ => True) (fun _ => 0) (()) (trivial) (by repeat (first | exact trivial | refine ⟨rfl, ?_⟩)) (fun _ h => h.subs (by first | ((repeat (first | exact Sub.refl | exact Sub.nil | apply Sub.emp | (apply Sub.cons; focus ((repeat (first | exact Pick.hd | apply Pick.tl)); done)) | (apply Sub.con; focus ((repeat (first | exact Pick.hd | apply Pick.tl)); done)) | (apply Sub.app; focus ((repeat (first | exact Pick.hd | apply Pick.tl)); done)) | apply Sub.drop)); done) | ((repeat (first | rw [List.append_assoc] | rw [List.cons_append] | rw [List.nil_append] | rw [List.append_nil])); (repeat (first | exact Sub.refl | exact Sub.nil | apply Sub.emp | (apply Sub.cons; focus ((repeat (first | exact Pick.hd | apply Pick.tl)); done)) | (apply Sub.con; focus ((repeat (first | exact Pick.hd | apply Pick.tl)); done)) | (apply Sub.app; focus ((repeat (first | exact Pick.hd | apply Pick.tl)); done)) | apply Sub.drop)); done))) ?_
  rintro _ _
  try dsimp only
  refine Cod.seq ?_
  refine Cod.region ?_
  refine Ops.val (opV_lss rfl rfl (by first | exact decide_eq_true (by omega) | exact decide_eq_false (by omega) | rfl)) rfl ?_
  refine Ops.nil ?_
  refine Ex.next ?_
  refine Cod.seq ?_
  refine Cod.condF rfl ?_
  refine Cod.exit ?_
  refine Ex.thenExit ?_
  refine Ex.thenExit ?_
  refine Ex.blockHit ?_
  refine Ex.next ?_
  refine Cod.seq ?_
  refine Cod.region ?_
  refine Ops.val (opV_move rfl) rfl ?_
  refine Ops.val (opV_assign rfl) rfl ?_
  refine Ops.val (opV_assign rfl) rfl ?_
  refine Ops.nil ?_
  refine Ex.next ?_
  refine Cod.ret ?_
  exact Ex.ret2 rfl rfl rfl (fun _ h => h.subs (by first | ((repeat (first | exact Sub.refl | exact Sub.nil | apply Sub.emp | (apply Sub.cons; focus ((repeat (first | exact Pick.hd | apply Pick.tl)); done)) | (apply Sub.con; focus ((repeat (first | exact Pick.hd | apply Pick.tl)); done)) | (apply Sub.app; focus ((repeat (first | exact Pick.hd | apply Pick.tl)); done)) | apply Sub.drop)); done) | ((repeat (first | rw [List.append_assoc] | rw [List.cons_append] | rw [List.nil_append] | rw [List.append_nil])); (repeat (first | exact Sub.refl | exact Sub.nil | apply Sub.emp | (apply Sub.cons; focus ((repeat (first | exact Pick.hd | apply Pick.tl)); done)) | (apply Sub.con; focus ((repeat (first | exact Pick.hd | apply Pick.tl)); done)) | (apply Sub.app; focus ((repeat (first | exact Pick.hd | apply Pick.tl)); done)) | apply Sub.drop)); done))) ⟨b13, _, rfl, ⟨b10, .map #[] 0, .slice none 0 0, [], [], [], [], [], MapO.new rfl, .nil, Row.nil _ _, .nil, rfl⟩, rfl⟩
theorem bodiesOpen (hf : D.files = []) (hw : Owns e w As) (hA : Has e As A) (hD : DiskA p D A) : Calls Tryz.prog 60 #[.pointer (some ⟨p, 0, none⟩)] w
    (Ret e fun u Bs => ∃ s A', u = .tuple #[.pointer (some ⟨s, 0, none⟩), .int .i64 0] ∧ StoreA s p ⟨[], [], 0, 0⟩ A' ∧ Bs = A' :: As) := by
  refine enter Tryz.func60 rfl Tryz.ntmps60 hw rfl ?_
  refine Cod.seq ?_
  refine Cod.region ?_
  refine Ops.val (opV_assign rfl) rfl ?_
  refine Ops.val (opV_assign rfl) rfl ?_
  refine Ops.nil ?_
  refine Ex.next ?_
  refine Cod.seq ?_
  refine Cod.region ?_
  refine Ops.val (opV_move rfl) rfl ?_
  refine Ops.eff rfl opE_makeMap rfl ?_
  rintro _ _ ⟨b10, rfl, rfl⟩
  refine Ops.eff rfl opE_makeMap rfl ?_
  rintro _ _ ⟨b11, rfl, rfl⟩
  refine Ops.val (opV_build Fx.st_129 rfl (by first | (simp [fillL, vcells, putAt]; rfl) | (simp [fillL, vcells, putAt]; done) | rfl)) rfl ?_
  refine Ops.eff rfl (opE_box rfl) rfl ?_
  rintro _ _ ⟨b13, rfl, rfl⟩
  refine Ops.val (opV_assign rfl) rfl ?_
  refine Ops.nil ?_
  refine Ex.next ?_
  refine Cod.seq ?_
  refine Cod.seq ?_
  refine Cod.region ?_
  refine Ops.val (opV_move rfl) rfl ?_
  refine Ops.call rfl (opC_call Fx.cal_75 rfl (fun w hw => Kit.names (by rw [hf]; simp) (fun x hx => by rw [hf] at hx; simp [lkp] at hx) hw (by repeat (first | assumption | apply Has.up)) hD)) rfl ?_
  rintro v15 _ ⟨ns, AN, hAN, hns, rfl⟩
  have hn0 : ns = [] := by rw [hns, hf]; simp
  subst hn0
  refine Ops.val (opV_len Fx.sl_67 rfl hAN.isSlice) rfl ?_
  refine Ops.val (opV_move rfl) rfl ?_
  refine Ops.nil ?_
  refine Ex.next ?_
  refine Cod.block ?_
  refine Cod.loop (X := Unit) (fun _ => [(4, .pointer (some ⟨b13, 0, none⟩)), (15, v15), (16, .int .i64 0), (17, .int .i64 0)]) (fun _ => [(b13, .cells #[.pointer (some ⟨p, 0, none⟩), .map (some b10), .map (some b11), .int .i64 0, .int .i64 0] 129)] :: [(b10, .map #[] 0)] :: [(b11, .map #[] 0)] :: As) (fun _ => True) (fun _ => 0) (()) (trivial) (by repeat (first | exact trivial | refine ⟨rfl, ?_⟩)) (fun _ h => h.subs (by first | ((repeat (first | exact Sub.refl | exact Sub.nil | apply Sub.emp | (apply Sub.cons; focus ((repeat (first | exact Pick.hd | apply Pick.tl)); done)) | (apply Sub.con; focus ((repeat (first | exact Pick.hd | apply Pick.tl)); done)) | (apply Sub.app; focus ((repeat (first | exact Pick.hd | apply Pick.tl)); done)) | apply Sub.drop)); done) | ((repeat (first | rw [List.append_assoc] | rw [List.cons_append] | rw [List.nil_append] | rw [List.append_nil])); (repeat (first | exact Sub.refl | exact Sub.nil | apply Sub.emp | (apply Sub.cons; focus ((repeat (first | exact Pick.hd | apply Pick.tl)); done)) | (apply Sub.con; focus ((repeat (first | exact Pick.hd | apply Pick.tl)); done)) | (apply Sub.app; focus ((repeat (first | exact Pick.hd | apply Pick.tl)); done)) | apply Sub.drop)); done))) ?_
  rintro _ _
  try dsimp only
  refine Cod.seq ?_
  refine Cod.region ?_
  refine Ops.val (opV_lss rfl rfl (by first | exact decide_eq_true (by omega) | exact decide_eq_false (by omega) | rfl)) rfl ?_
  refine Ops.nil ?_
  refine Ex.next ?_
  refine Cod.seq ?_
  refine Cod.condF rfl ?_
  refine Cod.exit ?_
  refine Ex.thenExit ?_
  refine Ex.thenExit ?_
  refine Ex.blockHit ?_
  refine Ex.next ?_
  refine Cod.seq ?_
  refine Cod.region ?_
  refine Ops.val (opV_move rfl) rfl ?_
  refine Ops.val (opV_assign rfl) rfl ?_
  refine Ops.val (opV_assign rfl) rfl ?_
  refine Ops.nil ?_
  refine Ex.next ?_
  refine Cod.ret ?_
  exact Ex.ret2 rfl rfl rfl (fun _ h => h.subs (by first | ((repeat (first | exact Sub.refl | exact Sub.nil | apply Sub.emp | (apply Sub.cons; focus ((repeat (first | exact Pick.hd | apply Pick.tl)); done)) | (apply Sub.con; focus ((repeat (first | exact Pick.hd | apply Pick.tl)); done)) | (apply Sub.app; focus ((repeat (first | exact Pick.hd | apply Pick.tl)); done)) | apply Sub.drop)); done) | ((repeat (first | rw [List.append_assoc] | rw [List.cons_append] | rw [List.nil_append] | rw [List.append_nil])); (repeat (first | exact Sub.refl | exact Sub.nil | apply Sub.emp | (apply Sub.cons; focus ((repeat (first | exact Pick.hd | apply Pick.tl)); done)) | (apply Sub.con; focus ((repeat (first | exact Pick.hd | apply Pick.tl)); done)) | (apply Sub.app; focus ((repeat (first | exact Pick.hd | apply Pick.tl)); done)) | apply Sub.drop)); done))) ⟨b13, _, rfl, ⟨b10, .map #[] 0, [], b11, .map #[] 0, [], [], [], MapO.new rfl, .nil, MapO.new rfl, .nil, rfl⟩, rfl⟩
theorem opened {r : Int} (hw : Owns e w As) : Calls Tryz.prog 11 #[.int .i64 r] w
    (Ret e fun u Bs => ∃ d s A' DA', u = .tuple #[.pointer (some ⟨d, 0, none⟩), .pointer (some ⟨s, 0, none⟩)] ∧ StoreA s d ⟨[], [], 0, 0⟩ A' ∧ DiskA d ⟨[], [], r⟩ DA' ∧ Bs = A' :: DA' :: As) := by
  refine enter Tryz.func11 rfl Tryz.ntmps11 hw rfl ?_
  refine Cod.seq ?_
  refine Cod.region ?_
  refine Ops.val (opV_assign rfl) rfl ?_
  refine Ops.val (opV_assign rfl) rfl ?_
  refine Ops.nil ?_
  refine Ex.next ?_
  refine Cod.seq ?_
  refine Cod.region ?_
  refine Ops.val (opV_move rfl) rfl ?_
  refine Ops.call rfl (opC_call Fx.cal_22 rfl (fun w hw => diskOpen hw)) rfl ?_
  rintro v10 _ ⟨p, DA, rfl, hDA, rfl⟩
  refine Ops.val (opV_move rfl) rfl ?_
  refine Ops.val (opV_extract rfl rfl) rfl ?_
  refine Ops.val (opV_extract rfl rfl) rfl ?_
  refine Ops.val (opV_assign rfl) rfl ?_
  refine Ops.val (opV_assign rfl) rfl ?_
  refine Ops.nil ?_
  refine Ex.next ?_
  refine Cod.seq ?_
  refine Cod.seq ?_
  refine Cod.region ?_
  refine Ops.val (opV_move rfl) rfl ?_
  refine Ops.val (opV_ptrnil Fx.ptr_24 rfl rfl rfl) rfl ?_
  refine Ops.nil ?_
  refine Ex.next ?_
  refine Cod.condF rfl ?_
  refine Cod.skip ?_
  refine Ex.next ?_
  refine Cod.seq ?_
  refine Cod.region ?_
  refine Ops.val (opV_move rfl) rfl ?_
  refine Ops.call rfl (opC_call Fx.cal_60 rfl (fun w hw => bodiesOpen rfl hw (.mem (List.Mem.head _)) hDA)) rfl ?_
  rintro v17 _ ⟨s, A', rfl, hA', rfl⟩
  refine Ops.val (opV_move rfl) rfl ?_
  refine Ops.val (opV_extract rfl rfl) rfl ?_
  refine Ops.val (opV_extract rfl rfl) rfl ?_
  refine Ops.val (opV_assign rfl) rfl ?_
  refine Ops.val (opV_assign rfl) rfl ?_
  refine Ops.nil ?_
  refine Ex.next ?_
  refine Cod.seq ?_
  refine Cod.seq ?_
  refine Cod.region ?_
  refine Ops.val (opV_move rfl) rfl ?_
  refine Ops.val (opV_neq rfl rfl (by first | exact decide_eq_true (by omega) | exact decide_eq_false (by omega) | rfl)) rfl ?_
  refine Ops.nil ?_
  refine Ex.next ?_
  refine Cod.condF rfl ?_
  refine Cod.skip ?_
  refine Ex.next ?_
  refine Cod.seq ?_
  refine Cod.region ?_
  refine Ops.val (opV_move rfl) rfl ?_
  refine Ops.val (opV_move rfl) rfl ?_
  refine Ops.val (opV_assign rfl) rfl ?_
  refine Ops.val (opV_assign rfl) rfl ?_
  refine Ops.nil ?_
  refine Ex.next ?_
  refine Cod.ret ?_
  exact Ex.ret2 rfl rfl rfl (fun _ h => h.subs (by first | ((repeat (first | exact Sub.refl | exact Sub.nil | apply Sub.emp | (apply Sub.cons; focus ((repeat (first | exact Pick.hd | apply Pick.tl)); done)) | (apply Sub.con; focus ((repeat (first | exact Pick.hd | apply Pick.tl)); done)) | (apply Sub.app; focus ((repeat (first | exact Pick.hd | apply Pick.tl)); done)) | apply Sub.drop)); done) | ((repeat (first | rw [List.append_assoc] | rw [List.cons_append] | rw [List.nil_append] | rw [List.append_nil])); (repeat (first | exact Sub.refl | exact Sub.nil | apply Sub.emp | (apply Sub.cons; focus ((repeat (first | exact Pick.hd | apply Pick.tl)); done)) | (apply Sub.con; focus ((repeat (first | exact Pick.hd | apply Pick.tl)); done)) | (apply Sub.app; focus ((repeat (first | exact Pick.hd | apply Pick.tl)); done)) | apply Sub.drop)); done))) ⟨p, s, A', DA, rfl, hA', hDA, rfl⟩
theorem ids (hn : S.bodies.length ≤ 1000000000) (hk : ∀ x ∈ S.bodies.map Prod.fst, -9223372036854775808 ≤ x ∧ x ≤ 9223372036854775807) (hw : Owns e w As) (hA : Has e As A) (hS : StoreA s d S A) : Calls Tryz.prog 65 #[.pointer (some ⟨s, 0, none⟩)] w
    (Ret e fun u Bs => ∃ is A', Row 3 1 u is.length (zcells is) A' ∧ is = (S.bodies.map Prod.fst).mergeSort (fun x y => decide (x ≤ y)) ∧ Bs = A' :: As) := by
  obtain ⟨mb, ob, kb, sm, os, ks, BA, GA, hM, hBo, hMs, hSe, rfl⟩ := hS
  have hkeys := MapH.keys hBo
  have hlen : kb.length = S.bodies.length := by have := congrArg List.length hkeys; simpa using this
  refine enter Tryz.func65 rfl Tryz.ntmps65 hw rfl ?_
  refine Cod.seq ?_
  refine Cod.region ?_
  refine Ops.val (opV_assign rfl) rfl ?_
  refine Ops.nil ?_
  refine Ex.next ?_
  refine Cod.seq ?_
  refine Cod.region ?_
  refine Ops.val (opV_move rfl) rfl ?_
  refine Ops.val (opV_nil rfl) rfl ?_
  refine Ops.val (opV_field Fx.fld_129_1 rfl) rfl ?_
  refine Ops.val (opV_load Fx.scal_126 rfl (cellOf hA (List.Mem.head _) rfl)) rfl ?_
  refine Ops.call rfl (opC_call Fx.cal_139 rfl (fun w hw => Keys.keys139 hw hA)) rfl ?_
  rintro v7 _ ⟨q, rfl, rfl⟩
  refine Ops.call rfl (opC_call Fx.cal_86 rfl (fun w hw => Keys.sorted139 (kvs := kb) hw (.mem (by repeat (first | exact List.Mem.head _ | apply List.Mem.tail))) (List.Mem.head _) hA.up (.tail _ (.head _)) hM (by omega) (fun x hx => hk x.1 (by rw [← hkeys]; exact List.mem_map.2 ⟨x, hx, rfl⟩)))) rfl ?_
  rintro v8 _ ⟨ns, A', hA', hns, rfl⟩
  refine Ops.val (opV_assign rfl) rfl ?_
  refine Ops.nil ?_
  refine Ex.next ?_
  refine Cod.ret ?_
  exact Ex.ret1 rfl rfl (fun _ h => h.subs (by first | ((repeat (first | exact Sub.refl | exact Sub.nil | apply Sub.emp | (apply Sub.cons; focus ((repeat (first | exact Pick.hd | apply Pick.tl)); done)) | (apply Sub.con; focus ((repeat (first | exact Pick.hd | apply Pick.tl)); done)) | (apply Sub.app; focus ((repeat (first | exact Pick.hd | apply Pick.tl)); done)) | apply Sub.drop)); done) | ((repeat (first | rw [List.append_assoc] | rw [List.cons_append] | rw [List.nil_append] | rw [List.append_nil])); (repeat (first | exact Sub.refl | exact Sub.nil | apply Sub.emp | (apply Sub.cons; focus ((repeat (first | exact Pick.hd | apply Pick.tl)); done)) | (apply Sub.con; focus ((repeat (first | exact Pick.hd | apply Pick.tl)); done)) | (apply Sub.app; focus ((repeat (first | exact Pick.hd | apply Pick.tl)); done)) | apply Sub.drop)); done))) ⟨ns, A', hA', by rw [hns, hkeys], rfl⟩
end
end Go.Proofs.YteejmoldhbfdnaaGreatDoor.Law14
