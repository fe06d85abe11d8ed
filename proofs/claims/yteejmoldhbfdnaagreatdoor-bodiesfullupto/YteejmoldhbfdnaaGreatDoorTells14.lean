/- warrenlaw14.tells, warrenref14.Ids. -/
import Derived.Test.YteejmoldhbfdnaaGreatDoorSpeak14
set_option maxRecDepth 8000
namespace Go.Proofs.YteejmoldhbfdnaaGreatDoor.Tells14
open Go.W Go.RowKit Lib1 Oct OctR Seal Disk Disk2 Wal Num Wal2 Wal3 Bod Bod2 Bod3 Bod4 Law14
namespace Fx
theorem agg_36 : aggSz Tryz.prog 36 = some 4 := by kernel_rfl
theorem cal_32 : callable Tryz.prog 32 = true := by kernel_rfl
theorem cal_58 : callable Tryz.prog 58 = true := by kernel_rfl
theorem cal_59 : callable Tryz.prog 59 = true := by kernel_rfl
theorem cal_65 : callable Tryz.prog 65 = true := by kernel_rfl
theorem cal_66 : callable Tryz.prog 66 = true := by kernel_rfl
theorem cal_67 : callable Tryz.prog 67 = true := by kernel_rfl
theorem fld_36_0 : fieldOff Tryz.prog 36 0 = some 0 := by kernel_rfl
theorem fld_36_1 : fieldOff Tryz.prog 36 1 = some 1 := by kernel_rfl
theorem fld_36_2 : fieldOff Tryz.prog 36 2 = some 2 := by kernel_rfl
theorem ni_77 : notInt Tryz.prog 77 = true := by kernel_rfl
theorem scal_29 : scalarB Tryz.prog 29 = true := by kernel_rfl
theorem scal_3 : scalarB Tryz.prog 3 = true := by kernel_rfl
theorem scal_5 : scalarB Tryz.prog 5 = true := by kernel_rfl
theorem sl_28 : slInfo Tryz.prog 28 = some (36, 4, 48, some (.agg #[(.int .i64 0), (.int .i64 0), (.slice none 0 0), (.bool false)])) := by kernel_rfl
theorem sl_29 : slInfo Tryz.prog 29 = some (5, 1, 1, some (.int .u8 0)) := by kernel_rfl
theorem sl_77 : slInfo Tryz.prog 77 = some (3, 1, 8, some (.int .i64 0)) := by kernel_rfl
theorem sz1_3 : (Tryz.prog.info? 3).map (·.size) = some 1 := by kernel_rfl
theorem sz1_5 : (Tryz.prog.info? 5).map (·.size) = some 1 := by kernel_rfl
theorem zero_36 : (Tryz.prog.info? 36).bind (·.zero) = some (.agg #[(.int .i64 0), (.int .i64 0), (.slice none 0 0), (.bool false)]) := by kernel_rfl

end Fx
/-- A body of the document: its data's value, id, held, data, durable. -/
structure RB where
  dv : Value
  id : Int
  held : Int
  data : Str
  dur : Bool
def q4 (x : RB) : List Value := [.int .i64 x.id, .int .i64 x.held, x.dv, .bool x.dur]
def flat (qs : List RB) : List Value := (qs.map q4).flatten
theorem flat_len (qs : List RB) : (flat qs).length = qs.length * 4 := by
  induction qs with
  | nil => rfl
  | cons x xs ih => simp [flat, q4] at ih ⊢; omega
theorem flat_append (a b : List RB) : flat (a ++ b) = flat a ++ flat b := by simp [flat]
theorem flat_drop (qs : List RB) (i : Nat) : (flat qs).drop (i * 4) = flat (qs.drop i) := by
  induction qs generalizing i with
  | nil => simp [flat]
  | cons x xs ih =>
    cases i with
    | zero => simp [flat]
    | succ i =>
      have := ih i
      rw [show (i + 1) * 4 = i * 4 + 4 by omega]
      simp only [flat, List.map_cons, List.flatten_cons, List.drop_succ_cons, q4, List.cons_append, List.nil_append] at this ⊢
      exact this
theorem flat_get {qs : List RB} {i : Nat} {x : RB} (h : qs[i]? = some x) : ((flat qs).drop (i * 4)).take 4 = q4 x := by
  obtain ⟨hi, hx⟩ := List.getElem?_eq_some_iff.1 h
  rw [flat_drop, List.drop_eq_getElem_cons hi, hx]; rfl
theorem flat_id {qs : List RB} {i : Nat} {x : RB} (h : qs[i]? = some x) : (flat qs)[i * 4 + 0]? = some (.int .i64 x.id) := by
  have := congrArg (·[0]?) (flat_get h)
  simp only [List.getElem?_take, List.getElem?_drop] at this
  simpa [q4] using this
section
variable {e : Ctx} {w : World} {As F G : List Hp} {A B RX : Hp} {s d : Nat} {S : SK} {v u : Value} {qs : List RB}
theorem refIds {m : Nat} (hm : m = qs.length) (hl : qs.length ≤ 1000000000) (hw : Owns e w As) (hA : Has e As RX) (hv : Sl RX 4 v m (flat qs)) :
    Calls Tryz.prog 67 #[v] w (Ret e fun u Bs => ∃ A', Row 3 1 u qs.length (zcells (qs.map (·.id))) A' ∧ Bs = A' :: As) := by
  subst hm
  refine enter Tryz.func67 rfl Tryz.ntmps67 hw rfl ?_
  refine Cod.seq ?_
  refine Cod.region ?_
  refine Ops.val (opV_assign rfl) rfl ?_
  refine Ops.nil ?_
  refine Ex.next ?_
  refine Cod.seq ?_
  refine Cod.region ?_
  refine Ops.eff rfl (opE_buildSlice0 Fx.sl_77) rfl ?_
  rintro _ _ ⟨b5, rfl, rfl⟩
  refine Ops.val (opV_assign rfl) rfl ?_
  refine Ops.nil ?_
  refine Ex.next ?_
  refine Cod.seq ?_
  refine Cod.seq ?_
  refine Cod.region ?_
  refine Ops.val (opV_assign rfl) rfl ?_
  refine Ops.nil ?_
  refine Ex.next ?_
  refine Cod.block ?_
  refine Cod.loop (X := Nat × Value × Hp) (fun (i, u, R) => [(0, v), (3, u), (4, .int .i64 (i : Int))]) (fun (i, u, R) => R :: As) (fun (i, u, R) => i ≤ qs.length ∧ Row 3 1 u i (zcells ((qs.map (·.id)).take i)) R) (fun (i, u, R) => qs.length - i) ((0, _, [(b5, .cells #[] 3)])) (⟨Nat.zero_le _, Row.made (n := 0) rfl (by simp [maxLen])⟩) (by repeat (first | exact trivial | refine ⟨rfl, ?_⟩)) (fun _ h => h.subs (by first | ((repeat (first | exact Sub.refl | exact Sub.nil | apply Sub.emp | (apply Sub.cons; focus ((repeat (first | exact Pick.hd | apply Pick.tl)); done)) | (apply Sub.con; focus ((repeat (first | exact Pick.hd | apply Pick.tl)); done)) | (apply Sub.app; focus ((repeat (first | exact Pick.hd | apply Pick.tl)); done)) | apply Sub.drop)); done) | ((repeat (first | rw [List.append_assoc] | rw [List.cons_append] | rw [List.nil_append] | rw [List.append_nil])); (repeat (first | exact Sub.refl | exact Sub.nil | apply Sub.emp | (apply Sub.cons; focus ((repeat (first | exact Pick.hd | apply Pick.tl)); done)) | (apply Sub.con; focus ((repeat (first | exact Pick.hd | apply Pick.tl)); done)) | (apply Sub.app; focus ((repeat (first | exact Pick.hd | apply Pick.tl)); done)) | apply Sub.drop)); done))) ?_
  rintro ⟨i, u, R⟩ ⟨hi, hR⟩
  try dsimp only
  refine Cod.seq ?_
  refine Cod.seq ?_
  refine Cod.region ?_
  refine Ops.val (opV_move rfl) rfl ?_
  refine Ops.val (opV_move rfl) rfl ?_
  refine Ops.val (opV_len Fx.sl_28 rfl hv.isSlice) rfl ?_
  refine Ops.val (opV_lss rfl rfl (by first | exact decide_eq_true (by omega) | exact decide_eq_false (by omega) | rfl)) rfl ?_
  refine Ops.nil ?_
  refine Ex.next ?_
  refine Cod.cond rfl (fun hc => ?_) (fun hc => ?_)
  · try simp at hc
    obtain ⟨x, hx⟩ : ∃ x, qs[i]? = some x := ⟨_, List.getElem?_eq_getElem (by omega)⟩
    refine Cod.skip ?_
    refine Ex.next ?_
    refine Cod.seq ?_
    refine Cod.block ?_
    refine Cod.region ?_
    refine Ops.val (opV_move rfl) rfl ?_
    refine Ops.val (opV_move rfl) rfl ?_
    refine Ops.val (opV_move rfl) rfl ?_
    refine Ops.val (opV_indexAddr Fx.sl_28 rfl hv (k := i) rfl (by omega)) rfl ?_
    refine Ops.val (opV_fieldE Fx.fld_36_0 rfl hv (by omega)) rfl ?_
    refine Ops.val (opV_loadE Fx.scal_3 rfl hv hA.up (flat_id hx)) rfl ?_
    refine Ops.eff rfl (opE_buildSlice Fx.sl_77 rfl rfl (by first | (simp [fillL, rowCells, vcells, putAt]; rfl) | (simp [fillL, rowCells, vcells, putAt]; done) | rfl)) rfl ?_
    rintro _ _ ⟨b18, rfl, rfl⟩
    refine Ops.eff rfl (opE_append Fx.sl_77 rfl Fx.ni_77 rfl rfl (by repeat (first | exact Pick.hd | apply Pick.tl)) hR (one_src (.mem (by repeat (first | exact List.Mem.head _ | apply List.Mem.tail))) rfl (by simp [Value.oneCell'])) (by omega) (by simp [maxLen]; omega)) rfl ?_
    rintro v19 _ ⟨A19, hA19, rfl⟩
    refine Ops.val (opV_assign rfl) rfl ?_
    refine Ops.nil ?_
    refine Ex.blockNormal ?_
    refine Ex.next ?_
    refine Cod.region ?_
    refine Ops.val (opV_move rfl) rfl ?_
    refine Ops.val (opV_add64 rfl rfl (by omega)) rfl ?_
    refine Ops.val (opV_assign rfl) rfl ?_
    refine Ops.nil ?_
    refine Ex.toN (fun _ _ hs => ⟨(i + 1, v19, A19), ⟨by dsimp only; omega, by rw [List.take_add_one, List.getElem?_map, hx]; simpa using hA19⟩, (by first | omega | (dsimp only; omega) | (simp; omega) | (simp; done)), hs⟩) (by repeat (first | exact trivial | refine ⟨rfl, ?_⟩)) (fun _ h => h.subs (by first | ((repeat (first | exact Sub.refl | exact Sub.nil | apply Sub.emp | (apply Sub.cons; focus ((repeat (first | exact Pick.hd | apply Pick.tl)); done)) | (apply Sub.con; focus ((repeat (first | exact Pick.hd | apply Pick.tl)); done)) | (apply Sub.app; focus ((repeat (first | exact Pick.hd | apply Pick.tl)); done)) | apply Sub.drop)); done) | ((repeat (first | rw [List.append_assoc] | rw [List.cons_append] | rw [List.nil_append] | rw [List.append_nil])); (repeat (first | exact Sub.refl | exact Sub.nil | apply Sub.emp | (apply Sub.cons; focus ((repeat (first | exact Pick.hd | apply Pick.tl)); done)) | (apply Sub.con; focus ((repeat (first | exact Pick.hd | apply Pick.tl)); done)) | (apply Sub.app; focus ((repeat (first | exact Pick.hd | apply Pick.tl)); done)) | apply Sub.drop)); done)))
  · try simp at hc
    obtain rfl : i = qs.length := by omega
    have e1 : (qs.map (·.id)).take qs.length = qs.map (·.id) := by rw [List.take_of_length_le]; simp
    rw [e1] at hR
    refine Cod.exit ?_
    refine Ex.thenExit ?_
    refine Ex.thenExit ?_
    refine Ex.blockHit ?_
    refine Ex.next ?_
    refine Cod.seq ?_
    refine Cod.region ?_
    refine Ops.val (opV_move rfl) rfl ?_
    refine Ops.val (opV_assign rfl) rfl ?_
    refine Ops.nil ?_
    refine Ex.next ?_
    refine Cod.ret ?_
    exact Ex.ret1 rfl rfl (fun _ h => h.subs (by first | ((repeat (first | exact Sub.refl | exact Sub.nil | apply Sub.emp | (apply Sub.cons; focus ((repeat (first | exact Pick.hd | apply Pick.tl)); done)) | (apply Sub.con; focus ((repeat (first | exact Pick.hd | apply Pick.tl)); done)) | (apply Sub.app; focus ((repeat (first | exact Pick.hd | apply Pick.tl)); done)) | apply Sub.drop)); done) | ((repeat (first | rw [List.append_assoc] | rw [List.cons_append] | rw [List.nil_append] | rw [List.append_nil])); (repeat (first | exact Sub.refl | exact Sub.nil | apply Sub.emp | (apply Sub.cons; focus ((repeat (first | exact Pick.hd | apply Pick.tl)); done)) | (apply Sub.con; focus ((repeat (first | exact Pick.hd | apply Pick.tl)); done)) | (apply Sub.app; focus ((repeat (first | exact Pick.hd | apply Pick.tl)); done)) | apply Sub.drop)); done))) ⟨R, hR, rfl⟩
theorem tells_spec {m : Nat} (hm : m = qs.length) (hl : qs.length ≤ 100000000) (hbl : S.bodies.length ≤ 1000000000) (hbk : ∀ x ∈ qs, -9223372036854775808 ≤ x.id ∧ x.id ≤ 9223372036854775807) (hids : (S.bodies.map Prod.fst).mergeSort (fun x y => decide (x ≤ y)) = qs.map (·.id))
    (hq : ∀ x ∈ qs, (∃ seg, lkp x.id S.bodies = some (x.data, x.held, seg)) ∧ x.data.length ≤ 1000000000 ∧ Sl e.base 1 x.dv x.data.length (bcells x.data)) (h0 : lkp 0 S.bodies = none)
    (hw : Owns e w As) (hA : Has e As A) (hS : StoreA s d S A) (hX : Has e As RX) (hv : Sl RX 4 v m (flat qs)) :
    Calls Tryz.prog 15 #[.pointer (some ⟨s, 0, none⟩), v] w (Ret e fun u Bs => u = .bool true ∧ Bs = As) := by
  subst hm
  refine enter Tryz.func15 rfl Tryz.ntmps15 hw rfl ?_
  refine Cod.seq ?_
  refine Cod.region ?_
  refine Ops.val (opV_assign rfl) rfl ?_
  refine Ops.nil ?_
  refine Ex.next ?_
  refine Cod.seq ?_
  refine Cod.region ?_
  refine Ops.val (opV_move rfl) rfl ?_
  refine Ops.call rfl (opC_call Fx.cal_65 rfl (fun w hw => ids hbl (fun x hx => by have h1 : x ∈ qs.map (·.id) := (by rw [← hids]; exact List.mem_mergeSort.2 hx); obtain ⟨y, hy, rfl⟩ := List.mem_map.1 h1; exact hbk y hy) hw hA hS)) rfl ?_
  rintro v14 _ ⟨is, AI, hAI, his, rfl⟩
  refine Ops.val (opV_assign rfl) rfl ?_
  refine Ops.nil ?_
  refine Ex.next ?_
  refine Cod.seq ?_
  refine Cod.seq ?_
  refine Cod.region ?_
  refine Ops.val (opV_move rfl) rfl ?_
  refine Ops.val (opV_move rfl) rfl ?_
  refine Ops.call rfl (opC_call Fx.cal_67 rfl (fun w hw => refIds rfl (by omega) hw hX.up hv)) rfl ?_
  rintro v17 _ ⟨AR, hAR, rfl⟩
  refine Ops.call rfl (opC_call Fx.cal_66 rfl (fun w hw => sameInts hw (A := AI) (.mem (by repeat (first | exact List.Mem.head _ | apply List.Mem.tail))) (B := AR) (.mem (by repeat (first | exact List.Mem.head _ | apply List.Mem.tail))) rfl (by simp) (by have := congrArg List.length his; simp at this; omega) hAI.sl hAR.sl)) rfl ?_
  rintro v18 _ ⟨rfl, rfl⟩
  rw [hids] at his
  rw [decide_eq_true his]
  refine Ops.val (opV_not rfl) rfl ?_
  refine Ops.nil ?_
  refine Ex.next ?_
  refine Cod.condF rfl ?_
  refine Cod.skip ?_
  refine Ex.next ?_
  refine Cod.seq ?_
  refine Cod.seq ?_
  refine Cod.region ?_
  refine Ops.val (opV_move rfl) rfl ?_
  refine Ops.val (opV_len Fx.sl_28 rfl hv.isSlice) rfl ?_
  have hil : is.length = qs.length := by rw [his]; simp
  refine Ops.val (opV_move rfl) rfl ?_
  refine Ops.nil ?_
  refine Ex.next ?_
  refine Cod.block ?_
  refine Cod.loop (X := Nat × List Value × Hp) (fun (i, ys, AI) => [(0, .pointer (some ⟨s, 0, none⟩)), (5, v14), (20, v), (21, .int .i64 qs.length), (22, .int .i64 (i : Int))]) (fun (i, ys, AI) => AI :: As) (fun (i, ys, AI) => i ≤ qs.length ∧ Row 3 1 v14 is.length ys AI) (fun (i, ys, AI) => qs.length - i) ((0, _, AI)) (⟨Nat.zero_le _, hAI⟩) (by repeat (first | exact trivial | refine ⟨rfl, ?_⟩)) (fun _ h => h.subs (by first | ((repeat (first | exact Sub.refl | exact Sub.nil | apply Sub.emp | (apply Sub.cons; focus ((repeat (first | exact Pick.hd | apply Pick.tl)); done)) | (apply Sub.con; focus ((repeat (first | exact Pick.hd | apply Pick.tl)); done)) | (apply Sub.app; focus ((repeat (first | exact Pick.hd | apply Pick.tl)); done)) | apply Sub.drop)); done) | ((repeat (first | rw [List.append_assoc] | rw [List.cons_append] | rw [List.nil_append] | rw [List.append_nil])); (repeat (first | exact Sub.refl | exact Sub.nil | apply Sub.emp | (apply Sub.cons; focus ((repeat (first | exact Pick.hd | apply Pick.tl)); done)) | (apply Sub.con; focus ((repeat (first | exact Pick.hd | apply Pick.tl)); done)) | (apply Sub.app; focus ((repeat (first | exact Pick.hd | apply Pick.tl)); done)) | apply Sub.drop)); done))) ?_
  rintro ⟨i, ys, AI1⟩ ⟨hi, hAI1⟩
  try dsimp only
  refine Cod.seq ?_
  refine Cod.region ?_
  refine Ops.val (opV_lss rfl rfl (by first | exact decide_eq_true (by omega) | exact decide_eq_false (by omega) | rfl)) rfl ?_
  refine Ops.nil ?_
  refine Ex.next ?_
  refine Cod.seq ?_
  refine Cod.cond rfl (fun hc => ?_) (fun hc => ?_)
  · try simp at hc
    obtain ⟨x, hx⟩ : ∃ x, qs[i]? = some x := ⟨_, List.getElem?_eq_getElem (by omega)⟩
    obtain ⟨⟨seg, hkx⟩, hxl, hxs⟩ := hq x (List.mem_of_getElem? hx)
    have hone := hxs.one
    have hgx := flat_get hx
    unfold q4 at hgx
    refine Cod.skip ?_
    refine Ex.next ?_
    refine Cod.seq ?_
    refine Cod.block ?_
    refine Cod.seq ?_
    refine Cod.region ?_
    refine Ops.val (opV_move rfl) rfl ?_
    refine Ops.val (opV_indexAddr Fx.sl_28 rfl hv (k := i) rfl (by omega)) rfl ?_
    refine Ops.val (opV_loadEA Fx.agg_36 rfl hv hX.up hgx rfl (by decide)) rfl ?_
    refine Ops.eff rfl (opE_alloc Fx.zero_36) rfl ?_
    rintro _ _ ⟨b7, rfl, rfl⟩
    refine Ops.val (opV_assign rfl) rfl ?_
    refine Ops.st rfl (opS_storeA Fx.agg_36 rfl rfl rfl (by (try simp only [putAt]); simp only [List.mem_cons, List.not_mem_nil, or_false, forall_eq_or_imp, forall_eq]; (repeat' apply And.intro) <;> first | rfl | assumption | exact Row.one (by assumption) | exact Sl.one (by assumption)) rfl (by repeat (first | exact Upd.hd | apply Upd.tl)) rfl) ?_
    refine Ops.nil ?_
    refine Ex.next ?_
    refine Cod.seq ?_
    refine Cod.region ?_
    refine Ops.val (opV_move rfl) rfl ?_
    refine Ops.val (opV_field Fx.fld_36_0 rfl) rfl ?_
    refine Ops.val (opV_load Fx.scal_3 rfl (by repeat (first | exact Cell.one rfl | assumption | apply Cell.tl))) rfl ?_
    refine Ops.call rfl (opC_call Fx.cal_59 rfl (fun w hw => get_some hkx hxl hw hA.up.up hS)) rfl ?_
    rintro v31 _ ⟨vg, AG, rfl, hAG, rfl⟩
    obtain ⟨ag, cg, rfl⟩ := hAG.isSlice
    refine Ops.val (opV_move rfl) rfl ?_
    refine Ops.val (opV_extract rfl rfl) rfl ?_
    refine Ops.val (opV_extract rfl rfl) rfl ?_
    refine Ops.val (opV_assign rfl) rfl ?_
    refine Ops.val (opV_assign rfl) rfl ?_
    refine Ops.nil ?_
    refine Ex.next ?_
    refine Cod.seq ?_
    refine Cod.seq ?_
    refine Cod.draw [5, 12, 15] [0, 1, 2, 3, 4, 7, 8, 9, 10, 11, 14, 16, 17] ([(b7, .cells #[.int .i64 x.id, .int .i64 x.held, x.dv, .bool x.dur] 36)] :: []) [0, 1, 2, 3, 4, 5, 6, 7, 8, 9, 10, 11, 12, 14, 15, 13, 16, 17] M.mixed (by kernel_rfl) ?_
    refine AnyJ.valU rfl rfl rfl (opV_move rfl) rfl (fun _ _ _ h => h.2.elim) ?_
    refine AnyJ.valU rfl rfl rfl (opV_not rfl) rfl (fun _ _ _ h => h.2.elim) ?_
    refine AnyJ.valU rfl rfl rfl (opV_move rfl) rfl (fun _ _ _ h => h.2.elim) ?_
    refine AnyJ.valU rfl rfl rfl (opV_move rfl) rfl (fun _ _ _ h => h.2.elim) ?_
    refine AnyJ.valU rfl rfl rfl (opV_field Fx.fld_36_2 rfl) rfl (fun _ _ _ h => h.2.elim) ?_
    refine AnyJ.val rfl rfl (opV_load Fx.scal_29 rfl (by repeat (first | exact Cell.one rfl | assumption | apply Cell.tl))) rfl (fun _ _ _ h => h.2.elim) (fun _ h => h.subs (by first | ((repeat (first | exact Sub.refl | exact Sub.nil | apply Sub.emp | (apply Sub.cons; focus ((repeat (first | exact Pick.hd | apply Pick.tl)); done)) | (apply Sub.con; focus ((repeat (first | exact Pick.hd | apply Pick.tl)); done)) | (apply Sub.app; focus ((repeat (first | exact Pick.hd | apply Pick.tl)); done)) | apply Sub.drop)); done) | ((repeat (first | rw [List.append_assoc] | rw [List.cons_append] | rw [List.nil_append] | rw [List.append_nil])); (repeat (first | exact Sub.refl | exact Sub.nil | apply Sub.emp | (apply Sub.cons; focus ((repeat (first | exact Pick.hd | apply Pick.tl)); done)) | (apply Sub.con; focus ((repeat (first | exact Pick.hd | apply Pick.tl)); done)) | (apply Sub.app; focus ((repeat (first | exact Pick.hd | apply Pick.tl)); done)) | apply Sub.drop)); done))) ?_
    refine AnyJ.call rfl rfl (opC_call Fx.cal_32 rfl (fun w hw => same (a := x.data) (b := x.data) rfl rfl hw (A := AG) (.mem (by repeat (first | exact List.Mem.head _ | apply List.Mem.tail))) (B := e.base) .base hAG.sl hxs)) rfl ?_
    rintro v40 _ ⟨rfl, rfl⟩
    refine ⟨(by first | (intro _ _ h; refine h.subs ?_; (repeat (first | exact Sub.refl | exact Sub.nil | apply Sub.emp | (apply Sub.cons; focus ((repeat (first | exact Pick.hd | apply Pick.tl)); done)) | (apply Sub.con; focus ((repeat (first | exact Pick.hd | apply Pick.tl)); done)) | (apply Sub.app; focus ((repeat (first | exact Pick.hd | apply Pick.tl)); done)) | apply Sub.drop)); done) | exact lead_no (by kernel_rfl)), ?_⟩
    rw [decide_eq_true rfl]
    refine AnyJ.valU rfl rfl rfl (opV_not rfl) rfl (fun _ _ _ h => h.2.elim) ?_
    refine AnyJ.valU rfl rfl rfl (opV_pickF rfl rfl) rfl (fun _ _ _ h => h.2.elim) ?_
    refine AnyJ.valU rfl rfl rfl (opV_move rfl) rfl (fun _ _ _ h => h.2.elim) ?_
    refine AnyJ.valU rfl rfl rfl (opV_move rfl) rfl (fun _ _ _ h => h.2.elim) ?_
    refine AnyJ.valU rfl rfl rfl (opV_field Fx.fld_36_0 rfl) rfl (fun _ _ _ h => h.2.elim) ?_
    refine AnyJ.val rfl rfl (opV_load Fx.scal_3 rfl (by repeat (first | exact Cell.one rfl | assumption | apply Cell.tl))) rfl (fun _ _ _ h => h.2.elim) (fun _ h => h.subs (by first | ((repeat (first | exact Sub.refl | exact Sub.nil | apply Sub.emp | (apply Sub.cons; focus ((repeat (first | exact Pick.hd | apply Pick.tl)); done)) | (apply Sub.con; focus ((repeat (first | exact Pick.hd | apply Pick.tl)); done)) | (apply Sub.app; focus ((repeat (first | exact Pick.hd | apply Pick.tl)); done)) | apply Sub.drop)); done) | ((repeat (first | rw [List.append_assoc] | rw [List.cons_append] | rw [List.nil_append] | rw [List.append_nil])); (repeat (first | exact Sub.refl | exact Sub.nil | apply Sub.emp | (apply Sub.cons; focus ((repeat (first | exact Pick.hd | apply Pick.tl)); done)) | (apply Sub.con; focus ((repeat (first | exact Pick.hd | apply Pick.tl)); done)) | (apply Sub.app; focus ((repeat (first | exact Pick.hd | apply Pick.tl)); done)) | apply Sub.drop)); done))) ?_
    refine AnyJ.valU rfl rfl rfl (opV_field Fx.fld_36_1 rfl) rfl (fun _ _ _ h => h.2.elim) ?_
    refine AnyJ.val rfl rfl (opV_load Fx.scal_3 rfl (by repeat (first | exact Cell.one rfl | assumption | apply Cell.tl))) rfl (fun _ _ _ h => h.2.elim) (fun _ h => h.subs (by first | ((repeat (first | exact Sub.refl | exact Sub.nil | apply Sub.emp | (apply Sub.cons; focus ((repeat (first | exact Pick.hd | apply Pick.tl)); done)) | (apply Sub.con; focus ((repeat (first | exact Pick.hd | apply Pick.tl)); done)) | (apply Sub.app; focus ((repeat (first | exact Pick.hd | apply Pick.tl)); done)) | apply Sub.drop)); done) | ((repeat (first | rw [List.append_assoc] | rw [List.cons_append] | rw [List.nil_append] | rw [List.append_nil])); (repeat (first | exact Sub.refl | exact Sub.nil | apply Sub.emp | (apply Sub.cons; focus ((repeat (first | exact Pick.hd | apply Pick.tl)); done)) | (apply Sub.con; focus ((repeat (first | exact Pick.hd | apply Pick.tl)); done)) | (apply Sub.app; focus ((repeat (first | exact Pick.hd | apply Pick.tl)); done)) | apply Sub.drop)); done))) ?_
    refine AnyJ.call rfl rfl (opC_call Fx.cal_58 rfl (fun w hw => held_some hkx hw hA.up.up.up hS)) rfl ?_
    rintro v47 _ ⟨rfl, rfl⟩
    refine ⟨(by first | (intro _ _ h; refine h.subs ?_; (repeat (first | exact Sub.refl | exact Sub.nil | apply Sub.emp | (apply Sub.cons; focus ((repeat (first | exact Pick.hd | apply Pick.tl)); done)) | (apply Sub.con; focus ((repeat (first | exact Pick.hd | apply Pick.tl)); done)) | (apply Sub.app; focus ((repeat (first | exact Pick.hd | apply Pick.tl)); done)) | apply Sub.drop)); done) | exact lead_no (by kernel_rfl)), ?_⟩
    refine AnyJ.valU rfl rfl rfl (opV_neq rfl rfl (decide_eq_false (fun q => q rfl))) rfl (fun _ _ _ h => h.2.elim) ?_
    refine AnyJ.valU rfl rfl rfl (opV_pickF rfl rfl) rfl (fun _ _ _ h => h.2.elim) ?_
    refine AnyJ.nil ?_
    refine Ex.next ?_
    refine Cod.condF rfl ?_
    refine Cod.skip ?_
    refine Ex.next ?_
    refine Cod.seq ?_
    refine Cod.seq ?_
    refine Cod.region ?_
    refine Ops.val (opV_move rfl) rfl ?_
    refine Ops.val (opV_len Fx.sl_29 rfl (by first | exact ⟨_, _, rfl⟩ | exact Sl.isSlice (by assumption) | exact (Row.sl (by assumption)).isSlice)) rfl ?_
    refine Ops.val (opV_move rfl) rfl ?_
    refine Ops.nil ?_
    refine Ex.next ?_
    refine Cod.block ?_
    refine Cod.loop (X := Nat × List Value × Hp) (fun (k, zs, AG) => [(0, .pointer (some ⟨s, 0, none⟩)), (5, v14), (6, .int .i64 (i : Int)), (8, .slice ag x.data.length cg), (20, v), (21, .int .i64 qs.length), (22, .int .i64 (i : Int)), (53, .int .i64 x.data.length), (54, .int .i64 (k : Int))]) (fun (k, zs, AG) => AG :: AI1 :: As) (fun (k, zs, AG) => k ≤ x.data.length ∧ Row 5 1 (.slice ag x.data.length cg) x.data.length zs AG) (fun (k, zs, AG) => x.data.length - k) ((0, _, AG)) (⟨Nat.zero_le _, hAG⟩) (by repeat (first | exact trivial | refine ⟨rfl, ?_⟩)) (fun _ h => h.subs (by first | ((repeat (first | exact Sub.refl | exact Sub.nil | apply Sub.emp | (apply Sub.cons; focus ((repeat (first | exact Pick.hd | apply Pick.tl)); done)) | (apply Sub.con; focus ((repeat (first | exact Pick.hd | apply Pick.tl)); done)) | (apply Sub.app; focus ((repeat (first | exact Pick.hd | apply Pick.tl)); done)) | apply Sub.drop)); done) | ((repeat (first | rw [List.append_assoc] | rw [List.cons_append] | rw [List.nil_append] | rw [List.append_nil])); (repeat (first | exact Sub.refl | exact Sub.nil | apply Sub.emp | (apply Sub.cons; focus ((repeat (first | exact Pick.hd | apply Pick.tl)); done)) | (apply Sub.con; focus ((repeat (first | exact Pick.hd | apply Pick.tl)); done)) | (apply Sub.app; focus ((repeat (first | exact Pick.hd | apply Pick.tl)); done)) | apply Sub.drop)); done))) ?_
    rintro ⟨k, zs, AG1⟩ ⟨hk, hAG1⟩
    try dsimp only
    refine Cod.seq ?_
    refine Cod.region ?_
    refine Ops.val (opV_lss rfl rfl (by first | exact decide_eq_true (by omega) | exact decide_eq_false (by omega) | rfl)) rfl ?_
    refine Ops.nil ?_
    refine Ex.next ?_
    refine Cod.seq ?_
    refine Cod.cond rfl (fun hc2 => ?_) (fun hc2 => ?_)
    · try simp at hc2
      refine Cod.skip ?_
      refine Ex.next ?_
      refine Cod.seq ?_
      refine Cod.block ?_
      refine Cod.seq ?_
      refine Cod.region ?_
      refine Ops.val (opV_move rfl) rfl ?_
      refine Ops.val (opV_assign rfl) rfl ?_
      refine Ops.nil ?_
      refine Ex.next ?_
      refine Cod.region ?_
      refine Ops.val (opV_move rfl) rfl ?_
      refine Ops.val (opV_move rfl) rfl ?_
      refine Ops.val (opV_indexAddr Fx.sl_29 rfl hAG1.sl (k := k) rfl (by omega)) rfl ?_
      refine Ops.stE rfl (opS_storeE Fx.scal_5 Fx.sz1_5 rfl rfl (by first | rfl | assumption | exact Row.one (by assumption) | exact Sl.one (by assumption)) (by repeat (first | exact Pick.hd | apply Pick.tl)) hAG1 (by have := hAG1.len; omega) ) ?_
      rintro _ ⟨AG2, hAG2, rfl⟩
      refine Ops.nil ?_
      refine Ex.blockNormal ?_
      refine Ex.next ?_
      refine Cod.region ?_
      refine Ops.val (opV_add64 rfl rfl (by omega)) rfl ?_
      refine Ops.val (opV_move rfl) rfl ?_
      refine Ops.nil ?_
      refine Ex.toN (fun _ _ hs => ⟨(k + 1, _, AG2), ⟨by dsimp only; omega, hAG2⟩, (by first | omega | (dsimp only; omega) | (simp; omega) | (simp; done)), hs⟩) (by repeat (first | exact trivial | refine ⟨rfl, ?_⟩)) (fun _ h => h.subs (by first | ((repeat (first | exact Sub.refl | exact Sub.nil | apply Sub.emp | (apply Sub.cons; focus ((repeat (first | exact Pick.hd | apply Pick.tl)); done)) | (apply Sub.con; focus ((repeat (first | exact Pick.hd | apply Pick.tl)); done)) | (apply Sub.app; focus ((repeat (first | exact Pick.hd | apply Pick.tl)); done)) | apply Sub.drop)); done) | ((repeat (first | rw [List.append_assoc] | rw [List.cons_append] | rw [List.nil_append] | rw [List.append_nil])); (repeat (first | exact Sub.refl | exact Sub.nil | apply Sub.emp | (apply Sub.cons; focus ((repeat (first | exact Pick.hd | apply Pick.tl)); done)) | (apply Sub.con; focus ((repeat (first | exact Pick.hd | apply Pick.tl)); done)) | (apply Sub.app; focus ((repeat (first | exact Pick.hd | apply Pick.tl)); done)) | apply Sub.drop)); done)))
    · try simp at hc2
      refine Cod.exit ?_
      refine Ex.thenExit ?_
      refine Ex.thenExit ?_
      refine Ex.blockHit ?_
      refine Ex.next ?_
      refine Cod.region ?_
      refine Ops.val (opV_move rfl) rfl ?_
      refine Ops.val (opV_move rfl) rfl ?_
      refine Ops.val (opV_indexAddr Fx.sl_77 rfl hAI1.sl (k := i) rfl (by omega)) rfl ?_
      refine Ops.stE rfl (opS_storeE Fx.scal_3 Fx.sz1_3 rfl rfl (by first | rfl | assumption | exact Row.one (by assumption) | exact Sl.one (by assumption)) (by repeat (first | exact Pick.hd | apply Pick.tl)) hAI1 (by have := hAI1.len; omega) ) ?_
      rintro _ ⟨AI2, hAI2, rfl⟩
      refine Ops.nil ?_
      refine Ex.blockNormal ?_
      refine Ex.next ?_
      refine Cod.region ?_
      refine Ops.val (opV_add64 rfl rfl (by omega)) rfl ?_
      refine Ops.val (opV_move rfl) rfl ?_
      refine Ops.nil ?_
      refine Ex.toN (fun _ _ hs => ⟨(i + 1, _, AI2), ⟨by dsimp only; omega, hAI2⟩, (by first | omega | (dsimp only; omega) | (simp; omega) | (simp; done)), hs⟩) (by repeat (first | exact trivial | refine ⟨rfl, ?_⟩)) (fun _ h => h.subs (by first | ((repeat (first | exact Sub.refl | exact Sub.nil | apply Sub.emp | (apply Sub.cons; focus ((repeat (first | exact Pick.hd | apply Pick.tl)); done)) | (apply Sub.con; focus ((repeat (first | exact Pick.hd | apply Pick.tl)); done)) | (apply Sub.app; focus ((repeat (first | exact Pick.hd | apply Pick.tl)); done)) | apply Sub.drop)); done) | ((repeat (first | rw [List.append_assoc] | rw [List.cons_append] | rw [List.nil_append] | rw [List.append_nil])); (repeat (first | exact Sub.refl | exact Sub.nil | apply Sub.emp | (apply Sub.cons; focus ((repeat (first | exact Pick.hd | apply Pick.tl)); done)) | (apply Sub.con; focus ((repeat (first | exact Pick.hd | apply Pick.tl)); done)) | (apply Sub.app; focus ((repeat (first | exact Pick.hd | apply Pick.tl)); done)) | apply Sub.drop)); done)))
  · try simp at hc
    refine Cod.exit ?_
    refine Ex.thenExit ?_
    refine Ex.thenExit ?_
    refine Ex.blockHit ?_
    refine Ex.next ?_
    refine Cod.seq ?_
    refine Cod.region ?_
    refine Ops.val (opV_move rfl) rfl ?_
    refine Ops.call rfl (opC_call Fx.cal_59 rfl (fun w hw => get_none h0 hw hA.up hS)) rfl ?_
    rintro v67 _ ⟨rfl, rfl⟩
    refine Ops.val (opV_move rfl) rfl ?_
    refine Ops.val (opV_extract rfl rfl) rfl ?_
    refine Ops.val (opV_extract rfl rfl) rfl ?_
    refine Ops.val (opV_assign rfl) rfl ?_
    refine Ops.val (opV_assign rfl) rfl ?_
    refine Ops.nil ?_
    refine Ex.next ?_
    refine Cod.seq ?_
    refine Cod.region ?_
    refine Ops.val (opV_move rfl) rfl ?_
    refine Ops.val (opV_len Fx.sl_29 rfl (by first | exact ⟨_, _, rfl⟩ | exact Sl.isSlice (by assumption) | exact (Row.sl (by assumption)).isSlice)) rfl ?_
    refine Ops.val (opV_eql rfl rfl (by first | exact decide_eq_true (by omega) | exact decide_eq_false (by omega) | rfl)) rfl ?_
    refine Ops.val (opV_move rfl) rfl ?_
    refine Ops.valg rfl (opV_move rfl) rfl ?_
    refine Ops.valg rfl (opV_not rfl) rfl ?_
    refine Ops.val (opV_pickT rfl rfl) rfl ?_
    refine Ops.val (opV_move rfl) rfl ?_
    refine Ops.valg rfl (opV_move rfl) rfl ?_
    refine Ops.call rfl (opC_call Fx.cal_58 rfl (fun w hw => held_none h0 hw hA.up hS)) rfl ?_
    rintro v79 _ ⟨rfl, rfl⟩
    refine Ops.valg rfl (opV_eql rfl rfl (by first | exact decide_eq_true (by omega) | exact decide_eq_false (by omega) | rfl)) rfl ?_
    refine Ops.val (opV_pickT rfl rfl) rfl ?_
    refine Ops.val (opV_assign rfl) rfl ?_
    refine Ops.nil ?_
    refine Ex.next ?_
    refine Cod.ret ?_
    exact Ex.ret1 rfl rfl (fun _ h => h.subs (by first | ((repeat (first | exact Sub.refl | exact Sub.nil | apply Sub.emp | (apply Sub.cons; focus ((repeat (first | exact Pick.hd | apply Pick.tl)); done)) | (apply Sub.con; focus ((repeat (first | exact Pick.hd | apply Pick.tl)); done)) | (apply Sub.app; focus ((repeat (first | exact Pick.hd | apply Pick.tl)); done)) | apply Sub.drop)); done) | ((repeat (first | rw [List.append_assoc] | rw [List.cons_append] | rw [List.nil_append] | rw [List.append_nil])); (repeat (first | exact Sub.refl | exact Sub.nil | apply Sub.emp | (apply Sub.cons; focus ((repeat (first | exact Pick.hd | apply Pick.tl)); done)) | (apply Sub.con; focus ((repeat (first | exact Pick.hd | apply Pick.tl)); done)) | (apply Sub.app; focus ((repeat (first | exact Pick.hd | apply Pick.tl)); done)) | apply Sub.drop)); done))) ⟨rfl, rfl⟩
end
end Go.Proofs.YteejmoldhbfdnaaGreatDoor.Tells14
