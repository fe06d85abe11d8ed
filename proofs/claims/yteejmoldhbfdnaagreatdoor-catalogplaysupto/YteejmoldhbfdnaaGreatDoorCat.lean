/- Package catalog: encode, check, apply, decode, the small calls. -/
import Derived.Test.YteejmoldhbfdnaaGreatDoorCatL
set_option maxRecDepth 8000
namespace Go.Proofs.YteejmoldhbfdnaaGreatDoor.Cat
open Go.W Go.RowKit Lib1 Oct OctR Seal Disk Disk2 Wal Num Wal2 Wal3 CatL
namespace Fx
theorem agg_152 : aggSz Tryz.prog 152 = some 1 := by kernel_rfl
theorem agg_51 : aggSz Tryz.prog 51 = some 3 := by kernel_rfl
theorem cal_135 : callable Tryz.prog 135 = true := by kernel_rfl
theorem cal_137 : callable Tryz.prog 137 = true := by kernel_rfl
theorem cal_138 : callable Tryz.prog 138 = true := by kernel_rfl
theorem cal_141 : callable Tryz.prog 141 = true := by kernel_rfl
theorem cal_150 : callable Tryz.prog 150 = true := by kernel_rfl
theorem cal_151 : callable Tryz.prog 151 = true := by kernel_rfl
theorem cal_152 : callable Tryz.prog 152 = true := by kernel_rfl
theorem cal_153 : callable Tryz.prog 153 = true := by kernel_rfl
theorem cal_154 : callable Tryz.prog 154 = true := by kernel_rfl
theorem fld_152_0 : fieldOff Tryz.prog 152 0 = some 0 := by kernel_rfl
theorem fld_154_1 : fieldOff Tryz.prog 154 1 = some 1 := by kernel_rfl
theorem fld_154_2 : fieldOff Tryz.prog 154 2 = some 2 := by kernel_rfl
theorem fld_51_0 : fieldOff Tryz.prog 51 0 = some 0 := by kernel_rfl
theorem fld_51_1 : fieldOff Tryz.prog 51 1 = some 1 := by kernel_rfl
theorem fld_51_2 : fieldOff Tryz.prog 51 2 = some 2 := by kernel_rfl
theorem map_149 : mapInfo Tryz.prog 149 = some (.string, (.agg #[(S [])])) := by kernel_rfl
theorem ni_39 : notInt Tryz.prog 39 = true := by kernel_rfl
theorem scal_149 : scalarB Tryz.prog 149 = true := by kernel_rfl
theorem scal_3 : scalarB Tryz.prog 3 = true := by kernel_rfl
theorem scal_4 : scalarB Tryz.prog 4 = true := by kernel_rfl
theorem scal_9 : scalarB Tryz.prog 9 = true := by kernel_rfl
theorem sl_39 : slInfo Tryz.prog 39 = some (51, 3, 40, some (.agg #[(S []), (S []), (.bool false)])) := by kernel_rfl
theorem st_152 : stInfo Tryz.prog 152 = some (#[(S [])], #[(0, 1)]) := by kernel_rfl
theorem st_51 : stInfo Tryz.prog 51 = some (#[(S []), (S []), (.bool false)], #[(0, 1), (1, 1), (2, 1)]) := by kernel_rfl
theorem sz1_3 : (Tryz.prog.info? 3).map (·.size) = some 1 := by kernel_rfl
theorem und_9 : Tryz.prog.underlying 9 = some .string := by kernel_rfl
theorem zero_152 : (Tryz.prog.info? 152).bind (·.zero) = some (.agg #[(S [])]) := by kernel_rfl
theorem zero_51 : (Tryz.prog.info? 51).bind (·.zero) = some (.agg #[(S []), (S []), (.bool false)]) := by kernel_rfl

end Fx
/-- A catalog's block and its map. -/
def CatM (c : Nat) (lv : Value) (es : List Pr) (A : Hp) : Prop :=
  ∃ mb ob, MapO (κ := Str) (es.map cv) ob ∧ A = (c, .cells #[lv, .map (some mb), .int .i64 (sumB es : Int)] 154) :: [(mb, ob)]
section
variable {e : Ctx} {w : World} {As F G : List Hp} {A B DA : Hp} {c d lb : Nat} {es : List Pr} {cs : List Ch} {v lv : Value} {x : Ch} {D : DK} {key : Str}
theorem encode_spec {m : Nat} (hm : m = cs.length) (hl : (cs.map chW).sum ≤ 900000000) (hw : Owns e w As) (hA : Has e As A) (hv : Sl A 3 v m (chs cs)) :
    Calls Tryz.prog 72 #[v] w (Ret e fun u Bs => ∃ A', Row 5 1 u (encF cs).length (bcells (encF cs)) A' ∧ Bs = A' :: As) := by
  subst hm
  have hn9 := len_chW cs
  refine enter Tryz.func72 rfl Tryz.ntmps72 hw rfl ?_
  refine Cod.seq ?_
  refine Cod.region ?_
  refine Ops.val (opV_assign rfl) rfl ?_
  refine Ops.nil ?_
  refine Ex.next ?_
  refine Cod.seq ?_
  refine Cod.region ?_
  refine Ops.call rfl (opC_call Fx.cal_135 rfl (fun w hw => newWriter hw)) rfl ?_
  rintro v6 _ ⟨wp, W0, rfl, hW0, rfl⟩
  refine Ops.val (opV_assign rfl) rfl ?_
  refine Ops.nil ?_
  refine Ex.next ?_
  refine Cod.seq ?_
  refine Cod.seq ?_
  refine Cod.region ?_
  refine Ops.val (opV_move rfl) rfl ?_
  refine Ops.val (opV_len Fx.sl_39 rfl hv.isSlice) rfl ?_
  refine Ops.val (opV_move rfl) rfl ?_
  refine Ops.nil ?_
  refine Ex.next ?_
  refine Cod.block ?_
  refine Cod.loop (X := Nat × Int × Hp) (fun (i, bt, W) => [(3, .pointer (some ⟨wp, 0, none⟩)), (7, v), (8, .int .i64 cs.length), (9, .int .i64 (i : Int))]) (fun (i, bt, W) => W :: As) (fun (i, bt, W) => i ≤ cs.length ∧ WrA wp 0 (encF (cs.take i)) W) (fun (i, bt, W) => cs.length - i) ((0, 0, W0)) (⟨Nat.zero_le _, by simpa [encF] using hW0⟩) (by repeat (first | exact trivial | refine ⟨rfl, ?_⟩)) (fun _ h => h.subs (by first | ((repeat (first | exact Sub.refl | exact Sub.nil | apply Sub.emp | (apply Sub.cons; focus ((repeat (first | exact Pick.hd | apply Pick.tl)); done)) | (apply Sub.con; focus ((repeat (first | exact Pick.hd | apply Pick.tl)); done)) | (apply Sub.app; focus ((repeat (first | exact Pick.hd | apply Pick.tl)); done)) | apply Sub.drop)); done) | ((repeat (first | rw [List.append_assoc] | rw [List.cons_append] | rw [List.nil_append] | rw [List.append_nil])); (repeat (first | exact Sub.refl | exact Sub.nil | apply Sub.emp | (apply Sub.cons; focus ((repeat (first | exact Pick.hd | apply Pick.tl)); done)) | (apply Sub.con; focus ((repeat (first | exact Pick.hd | apply Pick.tl)); done)) | (apply Sub.app; focus ((repeat (first | exact Pick.hd | apply Pick.tl)); done)) | apply Sub.drop)); done))) ?_
  rintro ⟨i, bt, W⟩ ⟨hi, hW⟩
  try dsimp only
  refine Cod.seq ?_
  refine Cod.region ?_
  refine Ops.val (opV_lss rfl rfl (by first | exact decide_eq_true (by omega) | exact decide_eq_false (by omega) | rfl)) rfl ?_
  refine Ops.nil ?_
  refine Ex.next ?_
  refine Cod.seq ?_
  refine Cod.cond rfl (fun hc => ?_) (fun hc => ?_)
  · try simp at hc
    obtain ⟨x, hx⟩ : ∃ x, cs[i]? = some x := ⟨_, List.getElem?_eq_getElem (by omega)⟩
    have ht : cs.take (i + 1) = cs.take i ++ [x] := by rw [List.take_add_one, hx]; rfl
    have hle := chW_take cs (i + 1)
    rw [← encF_len, ht, encF_snoc] at hle
    simp only [List.length_append, be_length, List.length_cons, List.length_nil] at hle
    refine Cod.skip ?_
    refine Ex.next ?_
    refine Cod.seq ?_
    refine Cod.block ?_
    refine Cod.seq ?_
    refine Cod.region ?_
    refine Ops.val (opV_indexAddr Fx.sl_39 rfl hv (k := i) rfl (by omega)) rfl ?_
    refine Ops.val (opV_loadEA Fx.agg_51 rfl hv hA.up (chs_get hx) rfl (by decide)) rfl ?_
    refine Ops.eff rfl (opE_alloc Fx.zero_51) rfl ?_
    rintro _ _ ⟨b5, rfl, rfl⟩
    refine Ops.st rfl (opS_storeA Fx.agg_51 rfl rfl rfl (by (try simp only [putAt]); simp only [List.mem_cons, List.not_mem_nil, or_false]; (try simp only [forall_eq_or_imp]); (try simp only [forall_eq]); (repeat' apply And.intro) <;> first | rfl | assumption | exact Row.one (by assumption) | exact Sl.one (by assumption)) rfl (by repeat (first | exact Upd.hd | apply Upd.tl)) rfl) ?_
    refine Ops.nil ?_
    refine Ex.next ?_
    refine Cod.seq ?_
    refine Cod.region ?_
    refine Ops.val (opV_move rfl) rfl ?_
    refine Ops.val (opV_field Fx.fld_51_2 rfl) rfl ?_
    refine Ops.val (opV_load Fx.scal_4 rfl (by repeat (first | exact Cell.one rfl | assumption | apply Cell.tl))) rfl ?_
    refine Ops.call rfl (opC_call Fx.cal_141 rfl (fun w hw => bit_w hw (by repeat (first | exact Pick.hd | apply Pick.tl)) hW (by omega))) rfl ?_
    rintro v16 _ ⟨rfl, W1, hW1, rfl⟩
    refine Ops.nil ?_
    refine Ex.next ?_
    refine Cod.seq ?_
    refine Cod.region ?_
    refine Ops.val (opV_move rfl) rfl ?_
    refine Ops.val (opV_field Fx.fld_51_0 rfl) rfl ?_
    refine Ops.val (opV_load Fx.scal_9 rfl (by repeat (first | exact Cell.one rfl | assumption | apply Cell.tl))) rfl ?_
    refine Ops.call rfl (opC_call Fx.cal_137 rfl (fun w hw => longStr hw .hd hW1 (by simp only [List.length_append, List.length_cons, List.length_nil]; omega))) rfl ?_
    rintro v20 _ ⟨rfl, W2, hW2, rfl⟩
    refine Ops.nil ?_
    refine Ex.next ?_
    refine Cod.region ?_
    refine Ops.val (opV_move rfl) rfl ?_
    refine Ops.val (opV_field Fx.fld_51_1 rfl) rfl ?_
    refine Ops.val (opV_load Fx.scal_9 rfl (by repeat (first | exact Cell.one rfl | assumption | apply Cell.tl))) rfl ?_
    refine Ops.call rfl (opC_call Fx.cal_137 rfl (fun w hw => longStr hw .hd hW2 (by simp only [List.length_append, be_length, List.length_cons, List.length_nil]; omega))) rfl ?_
    rintro v24 _ ⟨rfl, W3, hW3, rfl⟩
    refine Ops.nil ?_
    refine Ex.blockNormal ?_
    refine Ex.next ?_
    refine Cod.region ?_
    refine Ops.val (opV_add64 rfl rfl (by omega)) rfl ?_
    refine Ops.val (opV_move rfl) rfl ?_
    refine Ops.nil ?_
    refine Ex.toN (fun _ _ hs => ⟨(i + 1, 0, W3), ⟨by dsimp only; omega, by rw [ht, encF_snoc]; exact hW3⟩, (by first | omega | (dsimp only; omega) | (simp; omega) | (simp; done)), hs⟩) (by repeat (first | exact trivial | refine ⟨rfl, ?_⟩)) (fun _ h => h.subs (by first | ((repeat (first | exact Sub.refl | exact Sub.nil | apply Sub.emp | (apply Sub.cons; focus ((repeat (first | exact Pick.hd | apply Pick.tl)); done)) | (apply Sub.con; focus ((repeat (first | exact Pick.hd | apply Pick.tl)); done)) | (apply Sub.app; focus ((repeat (first | exact Pick.hd | apply Pick.tl)); done)) | apply Sub.drop)); done) | ((repeat (first | rw [List.append_assoc] | rw [List.cons_append] | rw [List.nil_append] | rw [List.append_nil])); (repeat (first | exact Sub.refl | exact Sub.nil | apply Sub.emp | (apply Sub.cons; focus ((repeat (first | exact Pick.hd | apply Pick.tl)); done)) | (apply Sub.con; focus ((repeat (first | exact Pick.hd | apply Pick.tl)); done)) | (apply Sub.app; focus ((repeat (first | exact Pick.hd | apply Pick.tl)); done)) | apply Sub.drop)); done)))
  · try simp at hc
    obtain rfl : i = cs.length := by omega
    rw [List.take_length] at hW
    refine Cod.exit ?_
    refine Ex.thenExit ?_
    refine Ex.thenExit ?_
    refine Ex.blockHit ?_
    refine Ex.next ?_
    refine Cod.seq ?_
    refine Cod.region ?_
    refine Ops.val (opV_move rfl) rfl ?_
    refine Ops.call rfl (opC_call Fx.cal_138 rfl (fun w hw => Oct.bytes hw (.mem (List.Mem.head _)) hW (by rw [encF_len]; omega))) rfl ?_
    rintro v27 _ ⟨A', hA', rfl⟩
    refine Ops.val (opV_assign rfl) rfl ?_
    refine Ops.nil ?_
    refine Ex.next ?_
    refine Cod.ret ?_
    exact Ex.ret1 rfl rfl (fun _ h => h.subs (by first | ((repeat (first | exact Sub.refl | exact Sub.nil | apply Sub.emp | (apply Sub.cons; focus ((repeat (first | exact Pick.hd | apply Pick.tl)); done)) | (apply Sub.con; focus ((repeat (first | exact Pick.hd | apply Pick.tl)); done)) | (apply Sub.app; focus ((repeat (first | exact Pick.hd | apply Pick.tl)); done)) | apply Sub.drop)); done) | ((repeat (first | rw [List.append_assoc] | rw [List.cons_append] | rw [List.nil_append] | rw [List.append_nil])); (repeat (first | exact Sub.refl | exact Sub.nil | apply Sub.emp | (apply Sub.cons; focus ((repeat (first | exact Pick.hd | apply Pick.tl)); done)) | (apply Sub.con; focus ((repeat (first | exact Pick.hd | apply Pick.tl)); done)) | (apply Sub.app; focus ((repeat (first | exact Pick.hd | apply Pick.tl)); done)) | apply Sub.drop)); done))) ⟨A', hA', rfl⟩
theorem check_spec {m : Nat} (hm : m = cs.length) (hl : (cs.map chW).sum ≤ 900000000) (hw : Owns e w As) (hA : Has e As A) (hv : Sl A 3 v m (chs cs)) :
    Calls Tryz.prog 68 #[v] w (Ret e fun u Bs => u = .int .i64 (checkF cs) ∧ Bs = As) := by
  subst hm
  have hn9 := len_chW cs
  have hsl := sumC_le cs
  refine enter Tryz.func68 rfl Tryz.ntmps68 hw rfl ?_
  refine Cod.seq ?_
  refine Cod.region ?_
  refine Ops.val (opV_assign rfl) rfl ?_
  refine Ops.nil ?_
  refine Ex.next ?_
  refine Cod.seq ?_
  refine Cod.region ?_
  refine Ops.val (opV_assign rfl) rfl ?_
  refine Ops.nil ?_
  refine Ex.next ?_
  refine Cod.seq ?_
  refine Cod.seq ?_
  refine Cod.region ?_
  refine Ops.val (opV_move rfl) rfl ?_
  refine Ops.val (opV_len Fx.sl_39 rfl hv.isSlice) rfl ?_
  refine Ops.val (opV_move rfl) rfl ?_
  refine Ops.nil ?_
  refine Ex.next ?_
  refine Cod.block ?_
  refine Cod.loop (X := Nat) (fun i => [(0, v), (3, .int .i64 ((sumC (cs.take i) : Nat) : Int)), (8, v), (9, .int .i64 cs.length), (10, .int .i64 (i : Int))]) (fun _ => As) (fun i => i ≤ cs.length) (fun i => cs.length - i) (0) ((Nat.zero_le _)) (by repeat (first | exact trivial | refine ⟨rfl, ?_⟩)) (fun _ h => h.subs (by first | ((repeat (first | exact Sub.refl | exact Sub.nil | apply Sub.emp | (apply Sub.cons; focus ((repeat (first | exact Pick.hd | apply Pick.tl)); done)) | (apply Sub.con; focus ((repeat (first | exact Pick.hd | apply Pick.tl)); done)) | (apply Sub.app; focus ((repeat (first | exact Pick.hd | apply Pick.tl)); done)) | apply Sub.drop)); done) | ((repeat (first | rw [List.append_assoc] | rw [List.cons_append] | rw [List.nil_append] | rw [List.append_nil])); (repeat (first | exact Sub.refl | exact Sub.nil | apply Sub.emp | (apply Sub.cons; focus ((repeat (first | exact Pick.hd | apply Pick.tl)); done)) | (apply Sub.con; focus ((repeat (first | exact Pick.hd | apply Pick.tl)); done)) | (apply Sub.app; focus ((repeat (first | exact Pick.hd | apply Pick.tl)); done)) | apply Sub.drop)); done))) ?_
  rintro i hi
  try dsimp only
  refine Cod.seq ?_
  refine Cod.region ?_
  refine Ops.val (opV_lss rfl rfl (by first | exact decide_eq_true (by omega) | exact decide_eq_false (by omega) | rfl)) rfl ?_
  refine Ops.nil ?_
  refine Ex.next ?_
  refine Cod.seq ?_
  refine Cod.cond rfl (fun hc => ?_) (fun hc => ?_)
  · try simp at hc
    obtain ⟨x, hx⟩ : ∃ x, cs[i]? = some x := ⟨_, List.getElem?_eq_getElem (by omega)⟩
    have hs := sumC_succ hx
    have hst := sumC_take cs (i + 1)
    refine Cod.skip ?_
    refine Ex.next ?_
    refine Cod.seq ?_
    refine Cod.block ?_
    refine Cod.seq ?_
    refine Cod.region ?_
    refine Ops.val (opV_indexAddr Fx.sl_39 rfl hv (k := i) rfl (by omega)) rfl ?_
    refine Ops.val (opV_loadEA Fx.agg_51 rfl hv hA (chs_get hx) rfl (by decide)) rfl ?_
    refine Ops.eff rfl (opE_alloc Fx.zero_51) rfl ?_
    rintro _ _ ⟨b5, rfl, rfl⟩
    refine Ops.st rfl (opS_storeA Fx.agg_51 rfl rfl rfl (by (try simp only [putAt]); simp only [List.mem_cons, List.not_mem_nil, or_false]; (try simp only [forall_eq_or_imp]); (try simp only [forall_eq]); (repeat' apply And.intro) <;> first | rfl | assumption | exact Row.one (by assumption) | exact Sl.one (by assumption)) rfl (by repeat (first | exact Upd.hd | apply Upd.tl)) rfl) ?_
    refine Ops.nil ?_
    refine Ex.next ?_
    refine Cod.seq ?_
    refine Cod.region ?_
    refine Ops.val (opV_move rfl) rfl ?_
    refine Ops.val (opV_field Fx.fld_51_0 rfl) rfl ?_
    refine Ops.val (opV_load Fx.scal_9 rfl (by repeat (first | exact Cell.one rfl | assumption | apply Cell.tl))) rfl ?_
    refine Ops.val (opV_slen Fx.und_9 rfl) rfl ?_
    refine Ops.val (opV_add64 rfl rfl (by omega)) rfl ?_
    rw [show ((sumC (cs.take i) : Nat) : Int) + (x.key.length : Int) = ((sumC (cs.take i) + x.key.length : Nat) : Int) by omega]
    refine Ops.val (opV_assign rfl) rfl ?_
    refine Ops.nil ?_
    refine Ex.next ?_
    refine Cod.seq ?_
    refine Cod.region ?_
    refine Ops.val (opV_field Fx.fld_51_2 rfl) rfl ?_
    refine Ops.val (opV_load Fx.scal_4 rfl (by repeat (first | exact Cell.one rfl | assumption | apply Cell.tl))) rfl ?_
    refine Ops.val (opV_not rfl) rfl ?_
    refine Ops.nil ?_
    refine Ex.next ?_
    refine Cod.cond rfl (fun hd => ?_) (fun hd => ?_)
    · try simp at hd
      have hd' : x.del = false := by simpa using hd
      rw [hd'] at hs
      refine Cod.region ?_
      refine Ops.val (opV_move rfl) rfl ?_
      refine Ops.val (opV_field Fx.fld_51_1 rfl) rfl ?_
      refine Ops.val (opV_load Fx.scal_9 rfl (by repeat (first | exact Cell.one rfl | assumption | apply Cell.tl))) rfl ?_
      refine Ops.val (opV_slen Fx.und_9 rfl) rfl ?_
      refine Ops.val (opV_add64 rfl rfl (by simp only [Bool.false_eq_true, if_false] at hs; omega)) rfl ?_
      have e2 : (((sumC (cs.take i) + x.key.length : Nat) : Int) + (x.val.length : Int)) = ((sumC (cs.take (i + 1)) : Nat) : Int) := by simp only [Bool.false_eq_true, if_false] at hs; omega
      rw [e2]
      refine Ops.val (opV_assign rfl) rfl ?_
      refine Ops.nil ?_
      refine Ex.blockNormal ?_
      refine Ex.next ?_
      refine Cod.region ?_
      refine Ops.val (opV_add64 rfl rfl (by omega)) rfl ?_
      refine Ops.val (opV_move rfl) rfl ?_
      refine Ops.nil ?_
      refine Ex.toN (fun _ _ hs => ⟨i + 1, (by omega), (by first | omega | (dsimp only; omega) | (simp; omega) | (simp; done)), hs⟩) (by repeat (first | exact trivial | refine ⟨rfl, ?_⟩)) (fun _ h => h.subs (by first | ((repeat (first | exact Sub.refl | exact Sub.nil | apply Sub.emp | (apply Sub.cons; focus ((repeat (first | exact Pick.hd | apply Pick.tl)); done)) | (apply Sub.con; focus ((repeat (first | exact Pick.hd | apply Pick.tl)); done)) | (apply Sub.app; focus ((repeat (first | exact Pick.hd | apply Pick.tl)); done)) | apply Sub.drop)); done) | ((repeat (first | rw [List.append_assoc] | rw [List.cons_append] | rw [List.nil_append] | rw [List.append_nil])); (repeat (first | exact Sub.refl | exact Sub.nil | apply Sub.emp | (apply Sub.cons; focus ((repeat (first | exact Pick.hd | apply Pick.tl)); done)) | (apply Sub.con; focus ((repeat (first | exact Pick.hd | apply Pick.tl)); done)) | (apply Sub.app; focus ((repeat (first | exact Pick.hd | apply Pick.tl)); done)) | apply Sub.drop)); done)))
    · try simp at hd
      have hd' : x.del = true := by simpa using hd
      rw [hd'] at hs
      have e2 : sumC (cs.take i) + x.key.length = sumC (cs.take (i + 1)) := by simp only [if_true] at hs; omega
      rw [e2]
      refine Cod.skip ?_
      refine Ex.blockNormal ?_
      refine Ex.next ?_
      refine Cod.region ?_
      refine Ops.val (opV_add64 rfl rfl (by omega)) rfl ?_
      refine Ops.val (opV_move rfl) rfl ?_
      refine Ops.nil ?_
      refine Ex.toN (fun _ _ hs => ⟨i + 1, (by omega), (by first | omega | (dsimp only; omega) | (simp; omega) | (simp; done)), hs⟩) (by repeat (first | exact trivial | refine ⟨rfl, ?_⟩)) (fun _ h => h.subs (by first | ((repeat (first | exact Sub.refl | exact Sub.nil | apply Sub.emp | (apply Sub.cons; focus ((repeat (first | exact Pick.hd | apply Pick.tl)); done)) | (apply Sub.con; focus ((repeat (first | exact Pick.hd | apply Pick.tl)); done)) | (apply Sub.app; focus ((repeat (first | exact Pick.hd | apply Pick.tl)); done)) | apply Sub.drop)); done) | ((repeat (first | rw [List.append_assoc] | rw [List.cons_append] | rw [List.nil_append] | rw [List.append_nil])); (repeat (first | exact Sub.refl | exact Sub.nil | apply Sub.emp | (apply Sub.cons; focus ((repeat (first | exact Pick.hd | apply Pick.tl)); done)) | (apply Sub.con; focus ((repeat (first | exact Pick.hd | apply Pick.tl)); done)) | (apply Sub.app; focus ((repeat (first | exact Pick.hd | apply Pick.tl)); done)) | apply Sub.drop)); done)))
  · try simp at hc
    obtain rfl : i = cs.length := by omega
    rw [List.take_length]
    refine Cod.exit ?_
    refine Ex.thenExit ?_
    refine Ex.thenExit ?_
    refine Ex.blockHit ?_
    refine Ex.next ?_
    refine Cod.seq ?_
    refine Cod.seq ?_
    refine Cod.region ?_
    refine Ops.val (opV_move rfl) rfl ?_
    refine Ops.val (opV_len Fx.sl_39 rfl hv.isSlice) rfl ?_
    refine Ops.val (opV_gtr rfl rfl (by first | exact decide_eq_true (by omega) | exact decide_eq_false (by omega) | rfl)) rfl ?_
    refine Ops.val (opV_move rfl) rfl ?_
    refine Ops.cases 31 rfl (fun hlong => ?_) (fun hlong => ?_)
    · skip
      refine Ops.skipg rfl rfl ?_
      refine Ops.skipg rfl rfl ?_
      refine Ops.val (opV_pickT rfl rfl) rfl ?_
      refine Ops.nil ?_
      refine Ex.next ?_
      refine Cod.condT rfl ?_
      refine Cod.seq ?_
      refine Cod.region ?_
      refine Ops.val (opV_assign rfl) rfl ?_
      refine Ops.nil ?_
      refine Ex.next ?_
      refine Cod.ret ?_
      refine Ex.thenRet ?_
      exact Ex.ret1 rfl rfl (fun _ h => h.subs (by first | ((repeat (first | exact Sub.refl | exact Sub.nil | apply Sub.emp | (apply Sub.cons; focus ((repeat (first | exact Pick.hd | apply Pick.tl)); done)) | (apply Sub.con; focus ((repeat (first | exact Pick.hd | apply Pick.tl)); done)) | (apply Sub.app; focus ((repeat (first | exact Pick.hd | apply Pick.tl)); done)) | apply Sub.drop)); done) | ((repeat (first | rw [List.append_assoc] | rw [List.cons_append] | rw [List.nil_append] | rw [List.append_nil])); (repeat (first | exact Sub.refl | exact Sub.nil | apply Sub.emp | (apply Sub.cons; focus ((repeat (first | exact Pick.hd | apply Pick.tl)); done)) | (apply Sub.con; focus ((repeat (first | exact Pick.hd | apply Pick.tl)); done)) | (apply Sub.app; focus ((repeat (first | exact Pick.hd | apply Pick.tl)); done)) | apply Sub.drop)); done))) ⟨by unfold checkF; rw [if_pos (.inl (by have : (10000 : Int) < (cs.length : Int) := of_decide_eq_true hlong; omega))], rfl⟩
    · skip
      refine Ops.valg rfl (opV_move rfl) rfl ?_
      refine Ops.valg rfl (opV_gtr rfl rfl (by first | exact decide_eq_true (by omega) | exact decide_eq_false (by omega) | rfl)) rfl ?_
      refine Ops.val (opV_pickF rfl rfl) rfl ?_
      refine Ops.nil ?_
      refine Ex.next ?_
      refine Cod.cond rfl (fun hbig => ?_) (fun hbig => ?_)
      · try simp at hbig
        refine Cod.seq ?_
        refine Cod.region ?_
        refine Ops.val (opV_assign rfl) rfl ?_
        refine Ops.nil ?_
        refine Ex.next ?_
        refine Cod.ret ?_
        refine Ex.thenRet ?_
        exact Ex.ret1 rfl rfl (fun _ h => h.subs (by first | ((repeat (first | exact Sub.refl | exact Sub.nil | apply Sub.emp | (apply Sub.cons; focus ((repeat (first | exact Pick.hd | apply Pick.tl)); done)) | (apply Sub.con; focus ((repeat (first | exact Pick.hd | apply Pick.tl)); done)) | (apply Sub.app; focus ((repeat (first | exact Pick.hd | apply Pick.tl)); done)) | apply Sub.drop)); done) | ((repeat (first | rw [List.append_assoc] | rw [List.cons_append] | rw [List.nil_append] | rw [List.append_nil])); (repeat (first | exact Sub.refl | exact Sub.nil | apply Sub.emp | (apply Sub.cons; focus ((repeat (first | exact Pick.hd | apply Pick.tl)); done)) | (apply Sub.con; focus ((repeat (first | exact Pick.hd | apply Pick.tl)); done)) | (apply Sub.app; focus ((repeat (first | exact Pick.hd | apply Pick.tl)); done)) | apply Sub.drop)); done))) ⟨by unfold checkF; rw [if_pos (.inr (by omega))], rfl⟩
      · try simp at hbig
        have hno : ¬ (10000 < cs.length ∨ 500000 < sumC cs) := by
            have h1 : ¬ ((10000 : Int) < (cs.length : Int)) := of_decide_eq_false hlong
            omega
        refine Cod.skip ?_
        refine Ex.next ?_
        refine Cod.seq ?_
        refine Cod.seq ?_
        refine Cod.region ?_
        refine Ops.val (opV_move rfl) rfl ?_
        refine Ops.val (opV_len Fx.sl_39 rfl hv.isSlice) rfl ?_
        refine Ops.val (opV_move rfl) rfl ?_
        refine Ops.nil ?_
        refine Ex.next ?_
        refine Cod.block ?_
        refine Cod.loop (X := Nat) (fun i => [(35, v), (36, .int .i64 cs.length), (37, .int .i64 (i : Int))]) (fun _ => As) (fun i => i ≤ cs.length ∧ ∀ c ∈ cs.take i, okKey c) (fun i => cs.length - i) (0) (⟨Nat.zero_le _, by simp⟩) (by repeat (first | exact trivial | refine ⟨rfl, ?_⟩)) (fun _ h => h.subs (by first | ((repeat (first | exact Sub.refl | exact Sub.nil | apply Sub.emp | (apply Sub.cons; focus ((repeat (first | exact Pick.hd | apply Pick.tl)); done)) | (apply Sub.con; focus ((repeat (first | exact Pick.hd | apply Pick.tl)); done)) | (apply Sub.app; focus ((repeat (first | exact Pick.hd | apply Pick.tl)); done)) | apply Sub.drop)); done) | ((repeat (first | rw [List.append_assoc] | rw [List.cons_append] | rw [List.nil_append] | rw [List.append_nil])); (repeat (first | exact Sub.refl | exact Sub.nil | apply Sub.emp | (apply Sub.cons; focus ((repeat (first | exact Pick.hd | apply Pick.tl)); done)) | (apply Sub.con; focus ((repeat (first | exact Pick.hd | apply Pick.tl)); done)) | (apply Sub.app; focus ((repeat (first | exact Pick.hd | apply Pick.tl)); done)) | apply Sub.drop)); done))) ?_
        rintro i ⟨hi, hok⟩
        try dsimp only
        refine Cod.seq ?_
        refine Cod.region ?_
        refine Ops.val (opV_lss rfl rfl (by first | exact decide_eq_true (by omega) | exact decide_eq_false (by omega) | rfl)) rfl ?_
        refine Ops.nil ?_
        refine Ex.next ?_
        refine Cod.seq ?_
        refine Cod.cond rfl (fun hc2 => ?_) (fun hc2 => ?_)
        · try simp at hc2
          obtain ⟨x, hx⟩ : ∃ x, cs[i]? = some x := ⟨_, List.getElem?_eq_getElem (by omega)⟩
          refine Cod.skip ?_
          refine Ex.next ?_
          refine Cod.seq ?_
          refine Cod.block ?_
          refine Cod.seq ?_
          refine Cod.region ?_
          refine Ops.val (opV_indexAddr Fx.sl_39 rfl hv (k := i) rfl (by omega)) rfl ?_
          refine Ops.val (opV_loadEA Fx.agg_51 rfl hv hA (chs_get hx) rfl (by decide)) rfl ?_
          refine Ops.eff rfl (opE_alloc Fx.zero_51) rfl ?_
          rintro _ _ ⟨b7, rfl, rfl⟩
          refine Ops.st rfl (opS_storeA Fx.agg_51 rfl rfl rfl (by (try simp only [putAt]); simp only [List.mem_cons, List.not_mem_nil, or_false]; (try simp only [forall_eq_or_imp]); (try simp only [forall_eq]); (repeat' apply And.intro) <;> first | rfl | assumption | exact Row.one (by assumption) | exact Sl.one (by assumption)) rfl (by repeat (first | exact Upd.hd | apply Upd.tl)) rfl) ?_
          refine Ops.nil ?_
          refine Ex.next ?_
          refine Cod.seq ?_
          refine Cod.region ?_
          refine Ops.val (opV_field Fx.fld_51_0 rfl) rfl ?_
          refine Ops.val (opV_load Fx.scal_9 rfl (by repeat (first | exact Cell.one rfl | assumption | apply Cell.tl))) rfl ?_
          refine Ops.val (opV_seql rfl rfl rfl) rfl ?_
          refine Ops.val (opV_move rfl) rfl ?_
          refine Ops.cases 44 rfl (fun hemp => ?_) (fun hemp => ?_)
          · skip
            refine Ops.skipg rfl rfl ?_
            refine Ops.skipg rfl rfl ?_
            refine Ops.skipg rfl rfl ?_
            refine Ops.skipg rfl rfl ?_
            refine Ops.val (opV_pickT rfl rfl) rfl ?_
            refine Ops.nil ?_
            refine Ex.next ?_
            refine Cod.condT rfl ?_
            refine Cod.seq ?_
            refine Cod.region ?_
            refine Ops.val (opV_assign rfl) rfl ?_
            refine Ops.nil ?_
            refine Ex.next ?_
            refine Cod.ret ?_
            refine Ex.blockRet ?_
            refine Ex.thenRet ?_
            refine Ex.thenRet ?_
            refine Ex.blockRet ?_
            refine Ex.thenRet ?_
            exact Ex.ret1 rfl rfl (fun _ h => h.subs (by first | ((repeat (first | exact Sub.refl | exact Sub.nil | apply Sub.emp | (apply Sub.cons; focus ((repeat (first | exact Pick.hd | apply Pick.tl)); done)) | (apply Sub.con; focus ((repeat (first | exact Pick.hd | apply Pick.tl)); done)) | (apply Sub.app; focus ((repeat (first | exact Pick.hd | apply Pick.tl)); done)) | apply Sub.drop)); done) | ((repeat (first | rw [List.append_assoc] | rw [List.cons_append] | rw [List.nil_append] | rw [List.append_nil])); (repeat (first | exact Sub.refl | exact Sub.nil | apply Sub.emp | (apply Sub.cons; focus ((repeat (first | exact Pick.hd | apply Pick.tl)); done)) | (apply Sub.con; focus ((repeat (first | exact Pick.hd | apply Pick.tl)); done)) | (apply Sub.app; focus ((repeat (first | exact Pick.hd | apply Pick.tl)); done)) | apply Sub.drop)); done))) ⟨by unfold checkF; rw [if_neg hno, if_neg (fun q => (q x (List.mem_of_getElem? hx)).1 (by simpa using hemp))], rfl⟩
          · skip
            refine Ops.valg rfl (opV_field Fx.fld_51_0 rfl) rfl ?_
            refine Ops.valg rfl (opV_load Fx.scal_9 rfl (by repeat (first | exact Cell.one rfl | assumption | apply Cell.tl))) rfl ?_
            refine Ops.valg rfl (opV_slen Fx.und_9 rfl) rfl ?_
            refine Ops.valg rfl (opV_gtr rfl rfl (by first | exact decide_eq_true (by omega) | exact decide_eq_false (by omega) | rfl)) rfl ?_
            refine Ops.val (opV_pickF rfl rfl) rfl ?_
            refine Ops.nil ?_
            refine Ex.next ?_
            refine Cod.cond rfl (fun h255 => ?_) (fun h255 => ?_)
            · try simp at h255
              refine Cod.seq ?_
              refine Cod.region ?_
              refine Ops.val (opV_assign rfl) rfl ?_
              refine Ops.nil ?_
              refine Ex.next ?_
              refine Cod.ret ?_
              refine Ex.blockRet ?_
              refine Ex.thenRet ?_
              refine Ex.thenRet ?_
              refine Ex.blockRet ?_
              refine Ex.thenRet ?_
              exact Ex.ret1 rfl rfl (fun _ h => h.subs (by first | ((repeat (first | exact Sub.refl | exact Sub.nil | apply Sub.emp | (apply Sub.cons; focus ((repeat (first | exact Pick.hd | apply Pick.tl)); done)) | (apply Sub.con; focus ((repeat (first | exact Pick.hd | apply Pick.tl)); done)) | (apply Sub.app; focus ((repeat (first | exact Pick.hd | apply Pick.tl)); done)) | apply Sub.drop)); done) | ((repeat (first | rw [List.append_assoc] | rw [List.cons_append] | rw [List.nil_append] | rw [List.append_nil])); (repeat (first | exact Sub.refl | exact Sub.nil | apply Sub.emp | (apply Sub.cons; focus ((repeat (first | exact Pick.hd | apply Pick.tl)); done)) | (apply Sub.con; focus ((repeat (first | exact Pick.hd | apply Pick.tl)); done)) | (apply Sub.app; focus ((repeat (first | exact Pick.hd | apply Pick.tl)); done)) | apply Sub.drop)); done))) ⟨by unfold checkF; rw [if_neg hno, if_neg (fun q => by have := (q x (List.mem_of_getElem? hx)).2; omega)], rfl⟩
            · try simp at h255
              refine Cod.skip ?_
              refine Ex.blockNormal ?_
              refine Ex.next ?_
              refine Cod.region ?_
              refine Ops.val (opV_add64 rfl rfl (by omega)) rfl ?_
              refine Ops.val (opV_move rfl) rfl ?_
              refine Ops.nil ?_
              refine Ex.toN (fun _ _ hs => ⟨i + 1, ⟨by omega, by rw [List.take_add_one, hx]; intro y hy; rcases List.mem_append.1 hy with hy | hy; exact hok y hy; simp at hy; subst hy; exact ⟨by simpa using hemp, by omega⟩⟩, (by first | omega | (dsimp only; omega) | (simp; omega) | (simp; done)), hs⟩) (by repeat (first | exact trivial | refine ⟨rfl, ?_⟩)) (fun _ h => h.subs (by first | ((repeat (first | exact Sub.refl | exact Sub.nil | apply Sub.emp | (apply Sub.cons; focus ((repeat (first | exact Pick.hd | apply Pick.tl)); done)) | (apply Sub.con; focus ((repeat (first | exact Pick.hd | apply Pick.tl)); done)) | (apply Sub.app; focus ((repeat (first | exact Pick.hd | apply Pick.tl)); done)) | apply Sub.drop)); done) | ((repeat (first | rw [List.append_assoc] | rw [List.cons_append] | rw [List.nil_append] | rw [List.append_nil])); (repeat (first | exact Sub.refl | exact Sub.nil | apply Sub.emp | (apply Sub.cons; focus ((repeat (first | exact Pick.hd | apply Pick.tl)); done)) | (apply Sub.con; focus ((repeat (first | exact Pick.hd | apply Pick.tl)); done)) | (apply Sub.app; focus ((repeat (first | exact Pick.hd | apply Pick.tl)); done)) | apply Sub.drop)); done)))
        · try simp at hc2
          obtain rfl : i = cs.length := by omega
          refine Cod.exit ?_
          refine Ex.thenExit ?_
          refine Ex.thenExit ?_
          refine Ex.blockHit ?_
          refine Ex.next ?_
          refine Cod.seq ?_
          refine Cod.region ?_
          refine Ops.val (opV_assign rfl) rfl ?_
          refine Ops.nil ?_
          refine Ex.next ?_
          refine Cod.ret ?_
          exact Ex.ret1 rfl rfl (fun _ h => h.subs (by first | ((repeat (first | exact Sub.refl | exact Sub.nil | apply Sub.emp | (apply Sub.cons; focus ((repeat (first | exact Pick.hd | apply Pick.tl)); done)) | (apply Sub.con; focus ((repeat (first | exact Pick.hd | apply Pick.tl)); done)) | (apply Sub.app; focus ((repeat (first | exact Pick.hd | apply Pick.tl)); done)) | apply Sub.drop)); done) | ((repeat (first | rw [List.append_assoc] | rw [List.cons_append] | rw [List.nil_append] | rw [List.append_nil])); (repeat (first | exact Sub.refl | exact Sub.nil | apply Sub.emp | (apply Sub.cons; focus ((repeat (first | exact Pick.hd | apply Pick.tl)); done)) | (apply Sub.con; focus ((repeat (first | exact Pick.hd | apply Pick.tl)); done)) | (apply Sub.app; focus ((repeat (first | exact Pick.hd | apply Pick.tl)); done)) | apply Sub.drop)); done))) ⟨by unfold checkF; rw [if_neg hno, if_pos (by simpa using hok)], rfl⟩
theorem apply_spec (hl : sumB es ≤ 900000000) (hx : chW x ≤ 900000000) (hnd : (es.map Prod.fst).Nodup) (hw : Owns e w As) (hp : Pick As A F) (hC : CatM c lv es A) :
    Calls Tryz.prog 71 #[.pointer (some ⟨c, 0, none⟩), .agg #[S x.key, S x.val, .bool x.del]] w (Ret e fun u Bs => u = .tuple #[] ∧ ∃ A', CatM c lv (apE es x) A' ∧ Bs = A' :: F) := by
  obtain ⟨mb, ob, hM, rfl⟩ := hC
  have hxl : 9 + x.key.length + x.val.length ≤ 900000000 := hx
  refine enter Tryz.func71 rfl Tryz.ntmps71 ((hw.pick hp).split) rfl ?_
  skip
  rcases hq : lkp x.key es with _ | old
  · skip
    refine Cod.seq ?_
    refine Cod.region ?_
    refine Ops.eff rfl (opE_box rfl) rfl ?_
    rintro _ _ ⟨b3, rfl, rfl⟩
    refine Ops.nil ?_
    refine Ex.next ?_
    refine Cod.seq ?_
    refine Cod.seq ?_
    refine Cod.draw [3, 5, 6] [0, 1, 2, 4, 7, 8, 9, 12] ([(c, .cells #[lv, .map (some mb), .int .i64 (sumB es : Int)] 154)] :: [(b3, .cells #[S x.key, S x.val, .bool x.del] 51)] :: [(mb, ob)] :: []) [0, 1, 2, 3, 4, 5, 6, 7, 8, 9, 10, 11, 12] M.mixed (by kernel_rfl) ?_
    refine AnyJ.valU rfl rfl rfl (opV_move rfl) rfl (fun _ _ _ h => h.2.elim) ?_
    refine AnyJ.valU rfl rfl rfl (opV_nil rfl) rfl (fun _ _ _ h => h.2.elim) ?_
    refine AnyJ.valU rfl rfl rfl (opV_field Fx.fld_154_1 rfl) rfl (fun _ _ _ h => h.2.elim) ?_
    refine AnyJ.val rfl rfl (opV_load Fx.scal_149 rfl (by repeat (first | exact Cell.one rfl | assumption | apply Cell.tl))) rfl (fun _ _ _ h => h.2.elim) (fun _ h => h.subs (by first | ((repeat (first | exact Sub.refl | exact Sub.nil | apply Sub.emp | (apply Sub.cons; focus ((repeat (first | exact Pick.hd | apply Pick.tl)); done)) | (apply Sub.con; focus ((repeat (first | exact Pick.hd | apply Pick.tl)); done)) | (apply Sub.app; focus ((repeat (first | exact Pick.hd | apply Pick.tl)); done)) | apply Sub.drop)); done) | ((repeat (first | rw [List.append_assoc] | rw [List.cons_append] | rw [List.nil_append] | rw [List.append_nil])); (repeat (first | exact Sub.refl | exact Sub.nil | apply Sub.emp | (apply Sub.cons; focus ((repeat (first | exact Pick.hd | apply Pick.tl)); done)) | (apply Sub.con; focus ((repeat (first | exact Pick.hd | apply Pick.tl)); done)) | (apply Sub.app; focus ((repeat (first | exact Pick.hd | apply Pick.tl)); done)) | apply Sub.drop)); done))) ?_
    refine AnyJ.valU rfl rfl rfl (opV_field Fx.fld_51_0 rfl) rfl (fun _ _ _ h => h.2.elim) ?_
    refine AnyJ.val rfl rfl (opV_load Fx.scal_9 rfl (by repeat (first | exact Cell.one rfl | assumption | apply Cell.tl))) rfl (fun _ _ _ h => h.2.elim) (fun _ h => h.subs (by first | ((repeat (first | exact Sub.refl | exact Sub.nil | apply Sub.emp | (apply Sub.cons; focus ((repeat (first | exact Pick.hd | apply Pick.tl)); done)) | (apply Sub.con; focus ((repeat (first | exact Pick.hd | apply Pick.tl)); done)) | (apply Sub.app; focus ((repeat (first | exact Pick.hd | apply Pick.tl)); done)) | apply Sub.drop)); done) | ((repeat (first | rw [List.append_assoc] | rw [List.cons_append] | rw [List.nil_append] | rw [List.append_nil])); (repeat (first | exact Sub.refl | exact Sub.nil | apply Sub.emp | (apply Sub.cons; focus ((repeat (first | exact Pick.hd | apply Pick.tl)); done)) | (apply Sub.con; focus ((repeat (first | exact Pick.hd | apply Pick.tl)); done)) | (apply Sub.app; focus ((repeat (first | exact Pick.hd | apply Pick.tl)); done)) | apply Sub.drop)); done))) ?_
    refine AnyJ.val rfl rfl (opV_lookup2 (κ := Str) Fx.map_149 rfl rfl (.mem (by repeat (first | exact List.Mem.head _ | apply List.Mem.tail))) (List.Mem.head _) hM) rfl (fun _ _ _ h => h.2.elim) (fun _ h => h.subs (by first | ((repeat (first | exact Sub.refl | exact Sub.nil | apply Sub.emp | (apply Sub.cons; focus ((repeat (first | exact Pick.hd | apply Pick.tl)); done)) | (apply Sub.con; focus ((repeat (first | exact Pick.hd | apply Pick.tl)); done)) | (apply Sub.app; focus ((repeat (first | exact Pick.hd | apply Pick.tl)); done)) | apply Sub.drop)); done) | ((repeat (first | rw [List.append_assoc] | rw [List.cons_append] | rw [List.nil_append] | rw [List.append_nil])); (repeat (first | exact Sub.refl | exact Sub.nil | apply Sub.emp | (apply Sub.cons; focus ((repeat (first | exact Pick.hd | apply Pick.tl)); done)) | (apply Sub.con; focus ((repeat (first | exact Pick.hd | apply Pick.tl)); done)) | (apply Sub.app; focus ((repeat (first | exact Pick.hd | apply Pick.tl)); done)) | apply Sub.drop)); done))) ?_
    rw [cv_lkp, hq]
    refine AnyJ.valU rfl rfl rfl (opV_move rfl) rfl (fun _ _ _ h => h.2.elim) ?_
    refine AnyJ.valU rfl rfl rfl (opV_extract rfl rfl) rfl (fun _ _ _ h => h.2.elim) ?_
    refine AnyJ.valU rfl rfl rfl (opV_extract rfl rfl) rfl (fun _ _ _ h => h.2.elim) ?_
    refine AnyJ.eff rfl rfl (opE_alloc Fx.zero_152) rfl ?_
    rintro _ _ ⟨b4, rfl, rfl⟩
    refine ⟨(by first | (intro _ _ h; refine h.subs ?_; (repeat (first | exact Sub.refl | exact Sub.nil | apply Sub.emp | (apply Sub.cons; focus ((repeat (first | exact Pick.hd | apply Pick.tl)); done)) | (apply Sub.con; focus ((repeat (first | exact Pick.hd | apply Pick.tl)); done)) | (apply Sub.app; focus ((repeat (first | exact Pick.hd | apply Pick.tl)); done)) | apply Sub.drop)); done) | exact lead_no (by kernel_rfl)), ?_⟩
    refine AnyJ.st rfl rfl (opS_storeA Fx.agg_152 rfl rfl rfl (by (try simp only [putAt]); simp only [List.mem_cons, List.not_mem_nil, or_false]; (try simp only [forall_eq_or_imp]); (try simp only [forall_eq]); (repeat' apply And.intro) <;> first | rfl | assumption | exact Row.one (by assumption) | exact Sl.one (by assumption)) rfl (by repeat (first | exact Upd.hd | apply Upd.tl)) rfl) (by first | (intro _ _ h; refine h.subs ?_; (repeat (first | exact Sub.refl | exact Sub.nil | apply Sub.emp | (apply Sub.cons; focus ((repeat (first | exact Pick.hd | apply Pick.tl)); done)) | (apply Sub.con; focus ((repeat (first | exact Pick.hd | apply Pick.tl)); done)) | (apply Sub.app; focus ((repeat (first | exact Pick.hd | apply Pick.tl)); done)) | apply Sub.drop)); done) | exact lead_no (by kernel_rfl)) ?_
    refine AnyJ.valU rfl rfl rfl (opV_assign rfl) rfl (fun _ _ _ h => h.2.elim) ?_
    refine AnyJ.nil ?_
    refine Ex.next ?_
    refine Cod.seq ?_
    refine Cod.region ?_
    refine Ops.val (opV_move rfl) rfl ?_
    refine Ops.nil ?_
    refine Ex.next ?_
    refine Cod.condF rfl ?_
    have e0 : del x.key es = es := del_none hq
    have hM1 : MapO (κ := Str) ((del x.key es).map cv) ob := by rw [e0]; exact hM
    rw [show ((sumB es : Nat) : Int) = ((sumB (del x.key es) : Nat) : Int) by rw [e0]]
    have hl2 : sumB (del x.key es) ≤ 900000000 := by rw [e0]; exact hl
    refine Cod.skip ?_
    refine Ex.next ?_
    refine Cod.seq ?_
    refine Cod.region ?_
    refine Ops.val (opV_field Fx.fld_51_2 rfl) rfl ?_
    refine Ops.val (opV_load Fx.scal_4 rfl (by repeat (first | exact Cell.one rfl | assumption | apply Cell.tl))) rfl ?_
    refine Ops.val (opV_not rfl) rfl ?_
    refine Ops.nil ?_
    refine Ex.next ?_
    refine Cod.cond rfl (fun hdel => ?_) (fun hdel => ?_)
    · try simp at hdel
      replace hdel : x.del = false := by simpa using hdel
      refine Cod.seq ?_
      refine Cod.draw [3, 5, 7] [0, 1, 2, 4, 6, 8] ([(c, .cells #[lv, .map (some mb), .int .i64 (sumB (del x.key es) : Int)] 154)] :: [(b3, .cells #[S x.key, S x.val, .bool x.del] 51)] :: []) [0, 1, 2, 3, 4, 5, 6, 7, 8, 9] M.mixed (by kernel_rfl) ?_
      refine AnyJ.valU rfl rfl rfl (opV_move rfl) rfl (fun _ _ _ h => h.2.elim) ?_
      refine AnyJ.valU rfl rfl rfl (opV_nil rfl) rfl (fun _ _ _ h => h.2.elim) ?_
      refine AnyJ.valU rfl rfl rfl (opV_field Fx.fld_154_1 rfl) rfl (fun _ _ _ h => h.2.elim) ?_
      refine AnyJ.val rfl rfl (opV_load Fx.scal_149 rfl (by repeat (first | exact Cell.one rfl | assumption | apply Cell.tl))) rfl (fun _ _ _ h => h.2.elim) (fun _ h => h.subs (by first | ((repeat (first | exact Sub.refl | exact Sub.nil | apply Sub.emp | (apply Sub.cons; focus ((repeat (first | exact Pick.hd | apply Pick.tl)); done)) | (apply Sub.con; focus ((repeat (first | exact Pick.hd | apply Pick.tl)); done)) | (apply Sub.app; focus ((repeat (first | exact Pick.hd | apply Pick.tl)); done)) | apply Sub.drop)); done) | ((repeat (first | rw [List.append_assoc] | rw [List.cons_append] | rw [List.nil_append] | rw [List.append_nil])); (repeat (first | exact Sub.refl | exact Sub.nil | apply Sub.emp | (apply Sub.cons; focus ((repeat (first | exact Pick.hd | apply Pick.tl)); done)) | (apply Sub.con; focus ((repeat (first | exact Pick.hd | apply Pick.tl)); done)) | (apply Sub.app; focus ((repeat (first | exact Pick.hd | apply Pick.tl)); done)) | apply Sub.drop)); done))) ?_
      refine AnyJ.valU rfl rfl rfl (opV_field Fx.fld_51_0 rfl) rfl (fun _ _ _ h => h.2.elim) ?_
      refine AnyJ.val rfl rfl (opV_load Fx.scal_9 rfl (by repeat (first | exact Cell.one rfl | assumption | apply Cell.tl))) rfl (fun _ _ _ h => h.2.elim) (fun _ h => h.subs (by first | ((repeat (first | exact Sub.refl | exact Sub.nil | apply Sub.emp | (apply Sub.cons; focus ((repeat (first | exact Pick.hd | apply Pick.tl)); done)) | (apply Sub.con; focus ((repeat (first | exact Pick.hd | apply Pick.tl)); done)) | (apply Sub.app; focus ((repeat (first | exact Pick.hd | apply Pick.tl)); done)) | apply Sub.drop)); done) | ((repeat (first | rw [List.append_assoc] | rw [List.cons_append] | rw [List.nil_append] | rw [List.append_nil])); (repeat (first | exact Sub.refl | exact Sub.nil | apply Sub.emp | (apply Sub.cons; focus ((repeat (first | exact Pick.hd | apply Pick.tl)); done)) | (apply Sub.con; focus ((repeat (first | exact Pick.hd | apply Pick.tl)); done)) | (apply Sub.app; focus ((repeat (first | exact Pick.hd | apply Pick.tl)); done)) | apply Sub.drop)); done))) ?_
      refine AnyJ.valU rfl rfl rfl (opV_field Fx.fld_51_1 rfl) rfl (fun _ _ _ h => h.2.elim) ?_
      refine AnyJ.val rfl rfl (opV_load Fx.scal_9 rfl (by repeat (first | exact Cell.one rfl | assumption | apply Cell.tl))) rfl (fun _ _ _ h => h.2.elim) (fun _ h => h.subs (by first | ((repeat (first | exact Sub.refl | exact Sub.nil | apply Sub.emp | (apply Sub.cons; focus ((repeat (first | exact Pick.hd | apply Pick.tl)); done)) | (apply Sub.con; focus ((repeat (first | exact Pick.hd | apply Pick.tl)); done)) | (apply Sub.app; focus ((repeat (first | exact Pick.hd | apply Pick.tl)); done)) | apply Sub.drop)); done) | ((repeat (first | rw [List.append_assoc] | rw [List.cons_append] | rw [List.nil_append] | rw [List.append_nil])); (repeat (first | exact Sub.refl | exact Sub.nil | apply Sub.emp | (apply Sub.cons; focus ((repeat (first | exact Pick.hd | apply Pick.tl)); done)) | (apply Sub.con; focus ((repeat (first | exact Pick.hd | apply Pick.tl)); done)) | (apply Sub.app; focus ((repeat (first | exact Pick.hd | apply Pick.tl)); done)) | apply Sub.drop)); done))) ?_
      refine AnyJ.valU rfl rfl rfl (opV_build Fx.st_152 rfl (by first | (simp [fillL, vcells, putAt]; rfl) | (simp [fillL, vcells, putAt]; done) | rfl)) rfl (fun _ _ _ h => h.2.elim) ?_
      refine AnyJ.stE rfl rfl (opS_mapUpdate (κ := Str) Fx.map_149 rfl rfl rfl (by repeat (first | exact Pick.hd | apply Pick.tl)) hM1 ) ?_
      rintro _ ⟨ob2, hM2, rfl⟩
      refine ⟨(by first | (intro _ _ h; refine h.subs ?_; (repeat (first | exact Sub.refl | exact Sub.nil | apply Sub.emp | (apply Sub.cons; focus ((repeat (first | exact Pick.hd | apply Pick.tl)); done)) | (apply Sub.con; focus ((repeat (first | exact Pick.hd | apply Pick.tl)); done)) | (apply Sub.app; focus ((repeat (first | exact Pick.hd | apply Pick.tl)); done)) | apply Sub.drop)); done) | exact lead_no (by kernel_rfl)), ?_⟩
      refine AnyJ.nil ?_
      refine Ex.next ?_
      refine Cod.draw [3, 5, 8] [0, 1, 2, 4, 6, 7, 9, 10, 11, 12, 13] ([(c, .cells #[lv, .map (some mb), .int .i64 (sumB (del x.key es) : Int)] 154)] :: [(b3, .cells #[S x.key, S x.val, .bool x.del] 51)] :: []) [0, 1, 2, 3, 4, 5, 6, 7, 8, 9, 10, 11, 12, 13, 14] M.mixed (by kernel_rfl) ?_
      refine AnyJ.valU rfl rfl rfl (opV_move rfl) rfl (fun _ _ _ h => h.2.elim) ?_
      refine AnyJ.valU rfl rfl rfl (opV_nil rfl) rfl (fun _ _ _ h => h.2.elim) ?_
      refine AnyJ.valU rfl rfl rfl (opV_field Fx.fld_154_2 rfl) rfl (fun _ _ _ h => h.2.elim) ?_
      refine AnyJ.val rfl rfl (opV_load Fx.scal_3 rfl (by repeat (first | exact Cell.one rfl | assumption | apply Cell.tl))) rfl (fun _ _ _ h => h.2.elim) (fun _ h => h.subs (by first | ((repeat (first | exact Sub.refl | exact Sub.nil | apply Sub.emp | (apply Sub.cons; focus ((repeat (first | exact Pick.hd | apply Pick.tl)); done)) | (apply Sub.con; focus ((repeat (first | exact Pick.hd | apply Pick.tl)); done)) | (apply Sub.app; focus ((repeat (first | exact Pick.hd | apply Pick.tl)); done)) | apply Sub.drop)); done) | ((repeat (first | rw [List.append_assoc] | rw [List.cons_append] | rw [List.nil_append] | rw [List.append_nil])); (repeat (first | exact Sub.refl | exact Sub.nil | apply Sub.emp | (apply Sub.cons; focus ((repeat (first | exact Pick.hd | apply Pick.tl)); done)) | (apply Sub.con; focus ((repeat (first | exact Pick.hd | apply Pick.tl)); done)) | (apply Sub.app; focus ((repeat (first | exact Pick.hd | apply Pick.tl)); done)) | apply Sub.drop)); done))) ?_
      refine AnyJ.valU rfl rfl rfl (opV_field Fx.fld_51_0 rfl) rfl (fun _ _ _ h => h.2.elim) ?_
      refine AnyJ.val rfl rfl (opV_load Fx.scal_9 rfl (by repeat (first | exact Cell.one rfl | assumption | apply Cell.tl))) rfl (fun _ _ _ h => h.2.elim) (fun _ h => h.subs (by first | ((repeat (first | exact Sub.refl | exact Sub.nil | apply Sub.emp | (apply Sub.cons; focus ((repeat (first | exact Pick.hd | apply Pick.tl)); done)) | (apply Sub.con; focus ((repeat (first | exact Pick.hd | apply Pick.tl)); done)) | (apply Sub.app; focus ((repeat (first | exact Pick.hd | apply Pick.tl)); done)) | apply Sub.drop)); done) | ((repeat (first | rw [List.append_assoc] | rw [List.cons_append] | rw [List.nil_append] | rw [List.append_nil])); (repeat (first | exact Sub.refl | exact Sub.nil | apply Sub.emp | (apply Sub.cons; focus ((repeat (first | exact Pick.hd | apply Pick.tl)); done)) | (apply Sub.con; focus ((repeat (first | exact Pick.hd | apply Pick.tl)); done)) | (apply Sub.app; focus ((repeat (first | exact Pick.hd | apply Pick.tl)); done)) | apply Sub.drop)); done))) ?_
      refine AnyJ.valU rfl rfl rfl (opV_slen Fx.und_9 rfl) rfl (fun _ _ _ h => h.2.elim) ?_
      refine AnyJ.valU rfl rfl rfl (opV_field Fx.fld_51_1 rfl) rfl (fun _ _ _ h => h.2.elim) ?_
      refine AnyJ.val rfl rfl (opV_load Fx.scal_9 rfl (by repeat (first | exact Cell.one rfl | assumption | apply Cell.tl))) rfl (fun _ _ _ h => h.2.elim) (fun _ h => h.subs (by first | ((repeat (first | exact Sub.refl | exact Sub.nil | apply Sub.emp | (apply Sub.cons; focus ((repeat (first | exact Pick.hd | apply Pick.tl)); done)) | (apply Sub.con; focus ((repeat (first | exact Pick.hd | apply Pick.tl)); done)) | (apply Sub.app; focus ((repeat (first | exact Pick.hd | apply Pick.tl)); done)) | apply Sub.drop)); done) | ((repeat (first | rw [List.append_assoc] | rw [List.cons_append] | rw [List.nil_append] | rw [List.append_nil])); (repeat (first | exact Sub.refl | exact Sub.nil | apply Sub.emp | (apply Sub.cons; focus ((repeat (first | exact Pick.hd | apply Pick.tl)); done)) | (apply Sub.con; focus ((repeat (first | exact Pick.hd | apply Pick.tl)); done)) | (apply Sub.app; focus ((repeat (first | exact Pick.hd | apply Pick.tl)); done)) | apply Sub.drop)); done))) ?_
      refine AnyJ.valU rfl rfl rfl (opV_slen Fx.und_9 rfl) rfl (fun _ _ _ h => h.2.elim) ?_
      refine AnyJ.valU rfl rfl rfl (opV_add64 rfl rfl (by omega)) rfl (fun _ _ _ h => h.2.elim) ?_
      have hnew := sumB_new (v := x.val) (lkp_del_self (k := x.key) hnd)
      refine AnyJ.valU rfl rfl rfl (opV_add64 rfl rfl (by omega)) rfl (fun _ _ _ h => h.2.elim) ?_
      have eA : apE es x = ins x.key x.val (del x.key es) := by simp [apE, hdel]
      have e4 : ((sumB (del x.key es) : Nat) : Int) + ((x.key.length : Int) + (x.val.length : Int)) = ((sumB (apE es x) : Nat) : Int) := by rw [eA, hnew]; omega
      rw [e4]
      refine AnyJ.valU rfl rfl rfl (opV_nil rfl) rfl (fun _ _ _ h => h.2.elim) ?_
      refine AnyJ.valU rfl rfl rfl (opV_field Fx.fld_154_2 rfl) rfl (fun _ _ _ h => h.2.elim) ?_
      refine AnyJ.st rfl rfl (opS_store Fx.scal_3 Fx.sz1_3 rfl rfl (by first | rfl | assumption | exact Row.one (by assumption) | exact Sl.one (by assumption)) rfl (by repeat (first | exact Upd.hd | apply Upd.tl)) (by repeat (first | exact LSet.hd | apply LSet.tl))) (by first | (intro _ _ h; refine h.subs ?_; (repeat (first | exact Sub.refl | exact Sub.nil | apply Sub.emp | (apply Sub.cons; focus ((repeat (first | exact Pick.hd | apply Pick.tl)); done)) | (apply Sub.con; focus ((repeat (first | exact Pick.hd | apply Pick.tl)); done)) | (apply Sub.app; focus ((repeat (first | exact Pick.hd | apply Pick.tl)); done)) | apply Sub.drop)); done) | exact lead_no (by kernel_rfl)) ?_
      refine AnyJ.nil ?_
      exact Ex.end0 rfl (fun _ h => h.subs (by first | ((repeat (first | exact Sub.refl | exact Sub.nil | apply Sub.emp | (apply Sub.cons; focus ((repeat (first | exact Pick.hd | apply Pick.tl)); done)) | (apply Sub.con; focus ((repeat (first | exact Pick.hd | apply Pick.tl)); done)) | (apply Sub.app; focus ((repeat (first | exact Pick.hd | apply Pick.tl)); done)) | apply Sub.drop)); done) | ((repeat (first | rw [List.append_assoc] | rw [List.cons_append] | rw [List.nil_append] | rw [List.append_nil])); (repeat (first | exact Sub.refl | exact Sub.nil | apply Sub.emp | (apply Sub.cons; focus ((repeat (first | exact Pick.hd | apply Pick.tl)); done)) | (apply Sub.con; focus ((repeat (first | exact Pick.hd | apply Pick.tl)); done)) | (apply Sub.app; focus ((repeat (first | exact Pick.hd | apply Pick.tl)); done)) | apply Sub.drop)); done))) ⟨rfl, _, ⟨mb, ob2, by rw [eA, ← cv_ins]; exact hM2, rfl⟩, rfl⟩
    · try simp at hdel
      replace hdel : x.del = true := by simpa using hdel
      have eA : apE es x = del x.key es := by simp [apE, hdel]
      rw [← eA]
      refine Cod.skip ?_
      exact Ex.end0 rfl (fun _ h => h.subs (by first | ((repeat (first | exact Sub.refl | exact Sub.nil | apply Sub.emp | (apply Sub.cons; focus ((repeat (first | exact Pick.hd | apply Pick.tl)); done)) | (apply Sub.con; focus ((repeat (first | exact Pick.hd | apply Pick.tl)); done)) | (apply Sub.app; focus ((repeat (first | exact Pick.hd | apply Pick.tl)); done)) | apply Sub.drop)); done) | ((repeat (first | rw [List.append_assoc] | rw [List.cons_append] | rw [List.nil_append] | rw [List.append_nil])); (repeat (first | exact Sub.refl | exact Sub.nil | apply Sub.emp | (apply Sub.cons; focus ((repeat (first | exact Pick.hd | apply Pick.tl)); done)) | (apply Sub.con; focus ((repeat (first | exact Pick.hd | apply Pick.tl)); done)) | (apply Sub.app; focus ((repeat (first | exact Pick.hd | apply Pick.tl)); done)) | apply Sub.drop)); done))) ⟨rfl, _, ⟨mb, ob, by rw [eA]; exact hM1, rfl⟩, rfl⟩
  · skip
    refine Cod.seq ?_
    refine Cod.region ?_
    refine Ops.eff rfl (opE_box rfl) rfl ?_
    rintro _ _ ⟨b3, rfl, rfl⟩
    refine Ops.nil ?_
    refine Ex.next ?_
    refine Cod.seq ?_
    refine Cod.seq ?_
    refine Cod.draw [3, 5, 6] [0, 1, 2, 4, 7, 8, 9, 12] ([(c, .cells #[lv, .map (some mb), .int .i64 (sumB es : Int)] 154)] :: [(b3, .cells #[S x.key, S x.val, .bool x.del] 51)] :: [(mb, ob)] :: []) [0, 1, 2, 3, 4, 5, 6, 7, 8, 9, 10, 11, 12] M.mixed (by kernel_rfl) ?_
    refine AnyJ.valU rfl rfl rfl (opV_move rfl) rfl (fun _ _ _ h => h.2.elim) ?_
    refine AnyJ.valU rfl rfl rfl (opV_nil rfl) rfl (fun _ _ _ h => h.2.elim) ?_
    refine AnyJ.valU rfl rfl rfl (opV_field Fx.fld_154_1 rfl) rfl (fun _ _ _ h => h.2.elim) ?_
    refine AnyJ.val rfl rfl (opV_load Fx.scal_149 rfl (by repeat (first | exact Cell.one rfl | assumption | apply Cell.tl))) rfl (fun _ _ _ h => h.2.elim) (fun _ h => h.subs (by first | ((repeat (first | exact Sub.refl | exact Sub.nil | apply Sub.emp | (apply Sub.cons; focus ((repeat (first | exact Pick.hd | apply Pick.tl)); done)) | (apply Sub.con; focus ((repeat (first | exact Pick.hd | apply Pick.tl)); done)) | (apply Sub.app; focus ((repeat (first | exact Pick.hd | apply Pick.tl)); done)) | apply Sub.drop)); done) | ((repeat (first | rw [List.append_assoc] | rw [List.cons_append] | rw [List.nil_append] | rw [List.append_nil])); (repeat (first | exact Sub.refl | exact Sub.nil | apply Sub.emp | (apply Sub.cons; focus ((repeat (first | exact Pick.hd | apply Pick.tl)); done)) | (apply Sub.con; focus ((repeat (first | exact Pick.hd | apply Pick.tl)); done)) | (apply Sub.app; focus ((repeat (first | exact Pick.hd | apply Pick.tl)); done)) | apply Sub.drop)); done))) ?_
    refine AnyJ.valU rfl rfl rfl (opV_field Fx.fld_51_0 rfl) rfl (fun _ _ _ h => h.2.elim) ?_
    refine AnyJ.val rfl rfl (opV_load Fx.scal_9 rfl (by repeat (first | exact Cell.one rfl | assumption | apply Cell.tl))) rfl (fun _ _ _ h => h.2.elim) (fun _ h => h.subs (by first | ((repeat (first | exact Sub.refl | exact Sub.nil | apply Sub.emp | (apply Sub.cons; focus ((repeat (first | exact Pick.hd | apply Pick.tl)); done)) | (apply Sub.con; focus ((repeat (first | exact Pick.hd | apply Pick.tl)); done)) | (apply Sub.app; focus ((repeat (first | exact Pick.hd | apply Pick.tl)); done)) | apply Sub.drop)); done) | ((repeat (first | rw [List.append_assoc] | rw [List.cons_append] | rw [List.nil_append] | rw [List.append_nil])); (repeat (first | exact Sub.refl | exact Sub.nil | apply Sub.emp | (apply Sub.cons; focus ((repeat (first | exact Pick.hd | apply Pick.tl)); done)) | (apply Sub.con; focus ((repeat (first | exact Pick.hd | apply Pick.tl)); done)) | (apply Sub.app; focus ((repeat (first | exact Pick.hd | apply Pick.tl)); done)) | apply Sub.drop)); done))) ?_
    refine AnyJ.val rfl rfl (opV_lookup2 (κ := Str) Fx.map_149 rfl rfl (.mem (by repeat (first | exact List.Mem.head _ | apply List.Mem.tail))) (List.Mem.head _) hM) rfl (fun _ _ _ h => h.2.elim) (fun _ h => h.subs (by first | ((repeat (first | exact Sub.refl | exact Sub.nil | apply Sub.emp | (apply Sub.cons; focus ((repeat (first | exact Pick.hd | apply Pick.tl)); done)) | (apply Sub.con; focus ((repeat (first | exact Pick.hd | apply Pick.tl)); done)) | (apply Sub.app; focus ((repeat (first | exact Pick.hd | apply Pick.tl)); done)) | apply Sub.drop)); done) | ((repeat (first | rw [List.append_assoc] | rw [List.cons_append] | rw [List.nil_append] | rw [List.append_nil])); (repeat (first | exact Sub.refl | exact Sub.nil | apply Sub.emp | (apply Sub.cons; focus ((repeat (first | exact Pick.hd | apply Pick.tl)); done)) | (apply Sub.con; focus ((repeat (first | exact Pick.hd | apply Pick.tl)); done)) | (apply Sub.app; focus ((repeat (first | exact Pick.hd | apply Pick.tl)); done)) | apply Sub.drop)); done))) ?_
    rw [cv_lkp, hq]
    refine AnyJ.valU rfl rfl rfl (opV_move rfl) rfl (fun _ _ _ h => h.2.elim) ?_
    refine AnyJ.valU rfl rfl rfl (opV_extract rfl rfl) rfl (fun _ _ _ h => h.2.elim) ?_
    refine AnyJ.valU rfl rfl rfl (opV_extract rfl rfl) rfl (fun _ _ _ h => h.2.elim) ?_
    refine AnyJ.eff rfl rfl (opE_alloc Fx.zero_152) rfl ?_
    rintro _ _ ⟨b4, rfl, rfl⟩
    refine ⟨(by first | (intro _ _ h; refine h.subs ?_; (repeat (first | exact Sub.refl | exact Sub.nil | apply Sub.emp | (apply Sub.cons; focus ((repeat (first | exact Pick.hd | apply Pick.tl)); done)) | (apply Sub.con; focus ((repeat (first | exact Pick.hd | apply Pick.tl)); done)) | (apply Sub.app; focus ((repeat (first | exact Pick.hd | apply Pick.tl)); done)) | apply Sub.drop)); done) | exact lead_no (by kernel_rfl)), ?_⟩
    refine AnyJ.st rfl rfl (opS_storeA Fx.agg_152 rfl rfl rfl (by (try simp only [putAt]); simp only [List.mem_cons, List.not_mem_nil, or_false]; (try simp only [forall_eq_or_imp]); (try simp only [forall_eq]); (repeat' apply And.intro) <;> first | rfl | assumption | exact Row.one (by assumption) | exact Sl.one (by assumption)) rfl (by repeat (first | exact Upd.hd | apply Upd.tl)) rfl) (by first | (intro _ _ h; refine h.subs ?_; (repeat (first | exact Sub.refl | exact Sub.nil | apply Sub.emp | (apply Sub.cons; focus ((repeat (first | exact Pick.hd | apply Pick.tl)); done)) | (apply Sub.con; focus ((repeat (first | exact Pick.hd | apply Pick.tl)); done)) | (apply Sub.app; focus ((repeat (first | exact Pick.hd | apply Pick.tl)); done)) | apply Sub.drop)); done) | exact lead_no (by kernel_rfl)) ?_
    refine AnyJ.valU rfl rfl rfl (opV_assign rfl) rfl (fun _ _ _ h => h.2.elim) ?_
    refine AnyJ.nil ?_
    refine Ex.next ?_
    refine Cod.seq ?_
    refine Cod.region ?_
    refine Ops.val (opV_move rfl) rfl ?_
    refine Ops.nil ?_
    refine Ex.next ?_
    refine Cod.condT rfl ?_
    have hds := sumB_del hq
    refine Cod.seq ?_
    refine Cod.draw [3, 5, 8] [0, 1, 2, 4, 6, 7, 9, 10, 11, 12, 13] ([(c, .cells #[lv, .map (some mb), .int .i64 (sumB es : Int)] 154)] :: [(b3, .cells #[S x.key, S x.val, .bool x.del] 51)] :: [(b4, .cells #[S old] 152)] :: []) [0, 1, 2, 3, 4, 5, 6, 7, 8, 9, 10, 11, 12, 13, 14] M.mixed (by kernel_rfl) ?_
    refine AnyJ.valU rfl rfl rfl (opV_move rfl) rfl (fun _ _ _ h => h.2.elim) ?_
    refine AnyJ.valU rfl rfl rfl (opV_nil rfl) rfl (fun _ _ _ h => h.2.elim) ?_
    refine AnyJ.valU rfl rfl rfl (opV_field Fx.fld_154_2 rfl) rfl (fun _ _ _ h => h.2.elim) ?_
    refine AnyJ.val rfl rfl (opV_load Fx.scal_3 rfl (by repeat (first | exact Cell.one rfl | assumption | apply Cell.tl))) rfl (fun _ _ _ h => h.2.elim) (fun _ h => h.subs (by first | ((repeat (first | exact Sub.refl | exact Sub.nil | apply Sub.emp | (apply Sub.cons; focus ((repeat (first | exact Pick.hd | apply Pick.tl)); done)) | (apply Sub.con; focus ((repeat (first | exact Pick.hd | apply Pick.tl)); done)) | (apply Sub.app; focus ((repeat (first | exact Pick.hd | apply Pick.tl)); done)) | apply Sub.drop)); done) | ((repeat (first | rw [List.append_assoc] | rw [List.cons_append] | rw [List.nil_append] | rw [List.append_nil])); (repeat (first | exact Sub.refl | exact Sub.nil | apply Sub.emp | (apply Sub.cons; focus ((repeat (first | exact Pick.hd | apply Pick.tl)); done)) | (apply Sub.con; focus ((repeat (first | exact Pick.hd | apply Pick.tl)); done)) | (apply Sub.app; focus ((repeat (first | exact Pick.hd | apply Pick.tl)); done)) | apply Sub.drop)); done))) ?_
    refine AnyJ.valU rfl rfl rfl (opV_field Fx.fld_51_0 rfl) rfl (fun _ _ _ h => h.2.elim) ?_
    refine AnyJ.val rfl rfl (opV_load Fx.scal_9 rfl (by repeat (first | exact Cell.one rfl | assumption | apply Cell.tl))) rfl (fun _ _ _ h => h.2.elim) (fun _ h => h.subs (by first | ((repeat (first | exact Sub.refl | exact Sub.nil | apply Sub.emp | (apply Sub.cons; focus ((repeat (first | exact Pick.hd | apply Pick.tl)); done)) | (apply Sub.con; focus ((repeat (first | exact Pick.hd | apply Pick.tl)); done)) | (apply Sub.app; focus ((repeat (first | exact Pick.hd | apply Pick.tl)); done)) | apply Sub.drop)); done) | ((repeat (first | rw [List.append_assoc] | rw [List.cons_append] | rw [List.nil_append] | rw [List.append_nil])); (repeat (first | exact Sub.refl | exact Sub.nil | apply Sub.emp | (apply Sub.cons; focus ((repeat (first | exact Pick.hd | apply Pick.tl)); done)) | (apply Sub.con; focus ((repeat (first | exact Pick.hd | apply Pick.tl)); done)) | (apply Sub.app; focus ((repeat (first | exact Pick.hd | apply Pick.tl)); done)) | apply Sub.drop)); done))) ?_
    refine AnyJ.valU rfl rfl rfl (opV_slen Fx.und_9 rfl) rfl (fun _ _ _ h => h.2.elim) ?_
    refine AnyJ.valU rfl rfl rfl (opV_field Fx.fld_152_0 rfl) rfl (fun _ _ _ h => h.2.elim) ?_
    refine AnyJ.val rfl rfl (opV_load Fx.scal_9 rfl (by repeat (first | exact Cell.one rfl | assumption | apply Cell.tl))) rfl (fun _ _ _ h => h.2.elim) (fun _ h => h.subs (by first | ((repeat (first | exact Sub.refl | exact Sub.nil | apply Sub.emp | (apply Sub.cons; focus ((repeat (first | exact Pick.hd | apply Pick.tl)); done)) | (apply Sub.con; focus ((repeat (first | exact Pick.hd | apply Pick.tl)); done)) | (apply Sub.app; focus ((repeat (first | exact Pick.hd | apply Pick.tl)); done)) | apply Sub.drop)); done) | ((repeat (first | rw [List.append_assoc] | rw [List.cons_append] | rw [List.nil_append] | rw [List.append_nil])); (repeat (first | exact Sub.refl | exact Sub.nil | apply Sub.emp | (apply Sub.cons; focus ((repeat (first | exact Pick.hd | apply Pick.tl)); done)) | (apply Sub.con; focus ((repeat (first | exact Pick.hd | apply Pick.tl)); done)) | (apply Sub.app; focus ((repeat (first | exact Pick.hd | apply Pick.tl)); done)) | apply Sub.drop)); done))) ?_
    refine AnyJ.valU rfl rfl rfl (opV_slen Fx.und_9 rfl) rfl (fun _ _ _ h => h.2.elim) ?_
    refine AnyJ.valU rfl rfl rfl (opV_add64 rfl rfl (by omega)) rfl (fun _ _ _ h => h.2.elim) ?_
    refine AnyJ.valU rfl rfl rfl (opV_sub64 rfl rfl (by omega)) rfl (fun _ _ _ h => h.2.elim) ?_
    have e3 : ((sumB es : Nat) : Int) - ((x.key.length : Int) + (old.length : Int)) = ((sumB (del x.key es) : Nat) : Int) := by omega
    rw [e3]
    refine AnyJ.valU rfl rfl rfl (opV_nil rfl) rfl (fun _ _ _ h => h.2.elim) ?_
    refine AnyJ.valU rfl rfl rfl (opV_field Fx.fld_154_2 rfl) rfl (fun _ _ _ h => h.2.elim) ?_
    refine AnyJ.st rfl rfl (opS_store Fx.scal_3 Fx.sz1_3 rfl rfl (by first | rfl | assumption | exact Row.one (by assumption) | exact Sl.one (by assumption)) rfl (by repeat (first | exact Upd.hd | apply Upd.tl)) (by repeat (first | exact LSet.hd | apply LSet.tl))) (by first | (intro _ _ h; refine h.subs ?_; (repeat (first | exact Sub.refl | exact Sub.nil | apply Sub.emp | (apply Sub.cons; focus ((repeat (first | exact Pick.hd | apply Pick.tl)); done)) | (apply Sub.con; focus ((repeat (first | exact Pick.hd | apply Pick.tl)); done)) | (apply Sub.app; focus ((repeat (first | exact Pick.hd | apply Pick.tl)); done)) | apply Sub.drop)); done) | exact lead_no (by kernel_rfl)) ?_
    refine AnyJ.nil ?_
    refine Ex.next ?_
    refine Cod.draw [3, 5] [0, 1, 2, 4] ([(c, .cells #[lv, .map (some mb), .int .i64 (sumB (del x.key es) : Int)] 154)] :: [(b3, .cells #[S x.key, S x.val, .bool x.del] 51)] :: []) [0, 1, 2, 3, 4, 5, 6] M.mixed (by kernel_rfl) ?_
    refine AnyJ.valU rfl rfl rfl (opV_move rfl) rfl (fun _ _ _ h => h.2.elim) ?_
    refine AnyJ.valU rfl rfl rfl (opV_nil rfl) rfl (fun _ _ _ h => h.2.elim) ?_
    refine AnyJ.valU rfl rfl rfl (opV_field Fx.fld_154_1 rfl) rfl (fun _ _ _ h => h.2.elim) ?_
    refine AnyJ.val rfl rfl (opV_load Fx.scal_149 rfl (by repeat (first | exact Cell.one rfl | assumption | apply Cell.tl))) rfl (fun _ _ _ h => h.2.elim) (fun _ h => h.subs (by first | ((repeat (first | exact Sub.refl | exact Sub.nil | apply Sub.emp | (apply Sub.cons; focus ((repeat (first | exact Pick.hd | apply Pick.tl)); done)) | (apply Sub.con; focus ((repeat (first | exact Pick.hd | apply Pick.tl)); done)) | (apply Sub.app; focus ((repeat (first | exact Pick.hd | apply Pick.tl)); done)) | apply Sub.drop)); done) | ((repeat (first | rw [List.append_assoc] | rw [List.cons_append] | rw [List.nil_append] | rw [List.append_nil])); (repeat (first | exact Sub.refl | exact Sub.nil | apply Sub.emp | (apply Sub.cons; focus ((repeat (first | exact Pick.hd | apply Pick.tl)); done)) | (apply Sub.con; focus ((repeat (first | exact Pick.hd | apply Pick.tl)); done)) | (apply Sub.app; focus ((repeat (first | exact Pick.hd | apply Pick.tl)); done)) | apply Sub.drop)); done))) ?_
    refine AnyJ.valU rfl rfl rfl (opV_field Fx.fld_51_0 rfl) rfl (fun _ _ _ h => h.2.elim) ?_
    refine AnyJ.val rfl rfl (opV_load Fx.scal_9 rfl (by repeat (first | exact Cell.one rfl | assumption | apply Cell.tl))) rfl (fun _ _ _ h => h.2.elim) (fun _ h => h.subs (by first | ((repeat (first | exact Sub.refl | exact Sub.nil | apply Sub.emp | (apply Sub.cons; focus ((repeat (first | exact Pick.hd | apply Pick.tl)); done)) | (apply Sub.con; focus ((repeat (first | exact Pick.hd | apply Pick.tl)); done)) | (apply Sub.app; focus ((repeat (first | exact Pick.hd | apply Pick.tl)); done)) | apply Sub.drop)); done) | ((repeat (first | rw [List.append_assoc] | rw [List.cons_append] | rw [List.nil_append] | rw [List.append_nil])); (repeat (first | exact Sub.refl | exact Sub.nil | apply Sub.emp | (apply Sub.cons; focus ((repeat (first | exact Pick.hd | apply Pick.tl)); done)) | (apply Sub.con; focus ((repeat (first | exact Pick.hd | apply Pick.tl)); done)) | (apply Sub.app; focus ((repeat (first | exact Pick.hd | apply Pick.tl)); done)) | apply Sub.drop)); done))) ?_
    refine AnyJ.effN rfl rfl (opE_delete (κ := Str) Fx.map_149 rfl rfl (by repeat (first | exact Pick.hd | apply Pick.tl)) hM ) ?_
    rintro _ _ ⟨ob1, hM1', rfl⟩
    refine ⟨(by first | (intro _ _ h; refine h.subs ?_; (repeat (first | exact Sub.refl | exact Sub.nil | apply Sub.emp | (apply Sub.cons; focus ((repeat (first | exact Pick.hd | apply Pick.tl)); done)) | (apply Sub.con; focus ((repeat (first | exact Pick.hd | apply Pick.tl)); done)) | (apply Sub.app; focus ((repeat (first | exact Pick.hd | apply Pick.tl)); done)) | apply Sub.drop)); done) | exact lead_no (by kernel_rfl)), ?_⟩
    have hM1 : MapO (κ := Str) ((del x.key es).map cv) ob1 := by rw [← cv_del]; exact hM1'
    refine AnyJ.nil ?_
    refine Ex.next ?_
    refine Cod.seq ?_
    refine Cod.region ?_
    refine Ops.val (opV_field Fx.fld_51_2 rfl) rfl ?_
    refine Ops.val (opV_load Fx.scal_4 rfl (by repeat (first | exact Cell.one rfl | assumption | apply Cell.tl))) rfl ?_
    refine Ops.val (opV_not rfl) rfl ?_
    refine Ops.nil ?_
    refine Ex.next ?_
    refine Cod.cond rfl (fun hdel => ?_) (fun hdel => ?_)
    · try simp at hdel
      replace hdel : x.del = false := by simpa using hdel
      refine Cod.seq ?_
      refine Cod.draw [3, 5, 7] [0, 1, 2, 4, 6, 8] ([(c, .cells #[lv, .map (some mb), .int .i64 (sumB (del x.key es) : Int)] 154)] :: [(b3, .cells #[S x.key, S x.val, .bool x.del] 51)] :: []) [0, 1, 2, 3, 4, 5, 6, 7, 8, 9] M.mixed (by kernel_rfl) ?_
      refine AnyJ.valU rfl rfl rfl (opV_move rfl) rfl (fun _ _ _ h => h.2.elim) ?_
      refine AnyJ.valU rfl rfl rfl (opV_nil rfl) rfl (fun _ _ _ h => h.2.elim) ?_
      refine AnyJ.valU rfl rfl rfl (opV_field Fx.fld_154_1 rfl) rfl (fun _ _ _ h => h.2.elim) ?_
      refine AnyJ.val rfl rfl (opV_load Fx.scal_149 rfl (by repeat (first | exact Cell.one rfl | assumption | apply Cell.tl))) rfl (fun _ _ _ h => h.2.elim) (fun _ h => h.subs (by first | ((repeat (first | exact Sub.refl | exact Sub.nil | apply Sub.emp | (apply Sub.cons; focus ((repeat (first | exact Pick.hd | apply Pick.tl)); done)) | (apply Sub.con; focus ((repeat (first | exact Pick.hd | apply Pick.tl)); done)) | (apply Sub.app; focus ((repeat (first | exact Pick.hd | apply Pick.tl)); done)) | apply Sub.drop)); done) | ((repeat (first | rw [List.append_assoc] | rw [List.cons_append] | rw [List.nil_append] | rw [List.append_nil])); (repeat (first | exact Sub.refl | exact Sub.nil | apply Sub.emp | (apply Sub.cons; focus ((repeat (first | exact Pick.hd | apply Pick.tl)); done)) | (apply Sub.con; focus ((repeat (first | exact Pick.hd | apply Pick.tl)); done)) | (apply Sub.app; focus ((repeat (first | exact Pick.hd | apply Pick.tl)); done)) | apply Sub.drop)); done))) ?_
      refine AnyJ.valU rfl rfl rfl (opV_field Fx.fld_51_0 rfl) rfl (fun _ _ _ h => h.2.elim) ?_
      refine AnyJ.val rfl rfl (opV_load Fx.scal_9 rfl (by repeat (first | exact Cell.one rfl | assumption | apply Cell.tl))) rfl (fun _ _ _ h => h.2.elim) (fun _ h => h.subs (by first | ((repeat (first | exact Sub.refl | exact Sub.nil | apply Sub.emp | (apply Sub.cons; focus ((repeat (first | exact Pick.hd | apply Pick.tl)); done)) | (apply Sub.con; focus ((repeat (first | exact Pick.hd | apply Pick.tl)); done)) | (apply Sub.app; focus ((repeat (first | exact Pick.hd | apply Pick.tl)); done)) | apply Sub.drop)); done) | ((repeat (first | rw [List.append_assoc] | rw [List.cons_append] | rw [List.nil_append] | rw [List.append_nil])); (repeat (first | exact Sub.refl | exact Sub.nil | apply Sub.emp | (apply Sub.cons; focus ((repeat (first | exact Pick.hd | apply Pick.tl)); done)) | (apply Sub.con; focus ((repeat (first | exact Pick.hd | apply Pick.tl)); done)) | (apply Sub.app; focus ((repeat (first | exact Pick.hd | apply Pick.tl)); done)) | apply Sub.drop)); done))) ?_
      refine AnyJ.valU rfl rfl rfl (opV_field Fx.fld_51_1 rfl) rfl (fun _ _ _ h => h.2.elim) ?_
      refine AnyJ.val rfl rfl (opV_load Fx.scal_9 rfl (by repeat (first | exact Cell.one rfl | assumption | apply Cell.tl))) rfl (fun _ _ _ h => h.2.elim) (fun _ h => h.subs (by first | ((repeat (first | exact Sub.refl | exact Sub.nil | apply Sub.emp | (apply Sub.cons; focus ((repeat (first | exact Pick.hd | apply Pick.tl)); done)) | (apply Sub.con; focus ((repeat (first | exact Pick.hd | apply Pick.tl)); done)) | (apply Sub.app; focus ((repeat (first | exact Pick.hd | apply Pick.tl)); done)) | apply Sub.drop)); done) | ((repeat (first | rw [List.append_assoc] | rw [List.cons_append] | rw [List.nil_append] | rw [List.append_nil])); (repeat (first | exact Sub.refl | exact Sub.nil | apply Sub.emp | (apply Sub.cons; focus ((repeat (first | exact Pick.hd | apply Pick.tl)); done)) | (apply Sub.con; focus ((repeat (first | exact Pick.hd | apply Pick.tl)); done)) | (apply Sub.app; focus ((repeat (first | exact Pick.hd | apply Pick.tl)); done)) | apply Sub.drop)); done))) ?_
      refine AnyJ.valU rfl rfl rfl (opV_build Fx.st_152 rfl (by first | (simp [fillL, vcells, putAt]; rfl) | (simp [fillL, vcells, putAt]; done) | rfl)) rfl (fun _ _ _ h => h.2.elim) ?_
      refine AnyJ.stE rfl rfl (opS_mapUpdate (κ := Str) Fx.map_149 rfl rfl rfl (by repeat (first | exact Pick.hd | apply Pick.tl)) hM1 ) ?_
      rintro _ ⟨ob2, hM2, rfl⟩
      refine ⟨(by first | (intro _ _ h; refine h.subs ?_; (repeat (first | exact Sub.refl | exact Sub.nil | apply Sub.emp | (apply Sub.cons; focus ((repeat (first | exact Pick.hd | apply Pick.tl)); done)) | (apply Sub.con; focus ((repeat (first | exact Pick.hd | apply Pick.tl)); done)) | (apply Sub.app; focus ((repeat (first | exact Pick.hd | apply Pick.tl)); done)) | apply Sub.drop)); done) | exact lead_no (by kernel_rfl)), ?_⟩
      refine AnyJ.nil ?_
      refine Ex.next ?_
      refine Cod.draw [3, 5, 8] [0, 1, 2, 4, 6, 7, 9, 10, 11, 12, 13] ([(c, .cells #[lv, .map (some mb), .int .i64 (sumB (del x.key es) : Int)] 154)] :: [(b3, .cells #[S x.key, S x.val, .bool x.del] 51)] :: []) [0, 1, 2, 3, 4, 5, 6, 7, 8, 9, 10, 11, 12, 13, 14] M.mixed (by kernel_rfl) ?_
      refine AnyJ.valU rfl rfl rfl (opV_move rfl) rfl (fun _ _ _ h => h.2.elim) ?_
      refine AnyJ.valU rfl rfl rfl (opV_nil rfl) rfl (fun _ _ _ h => h.2.elim) ?_
      refine AnyJ.valU rfl rfl rfl (opV_field Fx.fld_154_2 rfl) rfl (fun _ _ _ h => h.2.elim) ?_
      refine AnyJ.val rfl rfl (opV_load Fx.scal_3 rfl (by repeat (first | exact Cell.one rfl | assumption | apply Cell.tl))) rfl (fun _ _ _ h => h.2.elim) (fun _ h => h.subs (by first | ((repeat (first | exact Sub.refl | exact Sub.nil | apply Sub.emp | (apply Sub.cons; focus ((repeat (first | exact Pick.hd | apply Pick.tl)); done)) | (apply Sub.con; focus ((repeat (first | exact Pick.hd | apply Pick.tl)); done)) | (apply Sub.app; focus ((repeat (first | exact Pick.hd | apply Pick.tl)); done)) | apply Sub.drop)); done) | ((repeat (first | rw [List.append_assoc] | rw [List.cons_append] | rw [List.nil_append] | rw [List.append_nil])); (repeat (first | exact Sub.refl | exact Sub.nil | apply Sub.emp | (apply Sub.cons; focus ((repeat (first | exact Pick.hd | apply Pick.tl)); done)) | (apply Sub.con; focus ((repeat (first | exact Pick.hd | apply Pick.tl)); done)) | (apply Sub.app; focus ((repeat (first | exact Pick.hd | apply Pick.tl)); done)) | apply Sub.drop)); done))) ?_
      refine AnyJ.valU rfl rfl rfl (opV_field Fx.fld_51_0 rfl) rfl (fun _ _ _ h => h.2.elim) ?_
      refine AnyJ.val rfl rfl (opV_load Fx.scal_9 rfl (by repeat (first | exact Cell.one rfl | assumption | apply Cell.tl))) rfl (fun _ _ _ h => h.2.elim) (fun _ h => h.subs (by first | ((repeat (first | exact Sub.refl | exact Sub.nil | apply Sub.emp | (apply Sub.cons; focus ((repeat (first | exact Pick.hd | apply Pick.tl)); done)) | (apply Sub.con; focus ((repeat (first | exact Pick.hd | apply Pick.tl)); done)) | (apply Sub.app; focus ((repeat (first | exact Pick.hd | apply Pick.tl)); done)) | apply Sub.drop)); done) | ((repeat (first | rw [List.append_assoc] | rw [List.cons_append] | rw [List.nil_append] | rw [List.append_nil])); (repeat (first | exact Sub.refl | exact Sub.nil | apply Sub.emp | (apply Sub.cons; focus ((repeat (first | exact Pick.hd | apply Pick.tl)); done)) | (apply Sub.con; focus ((repeat (first | exact Pick.hd | apply Pick.tl)); done)) | (apply Sub.app; focus ((repeat (first | exact Pick.hd | apply Pick.tl)); done)) | apply Sub.drop)); done))) ?_
      refine AnyJ.valU rfl rfl rfl (opV_slen Fx.und_9 rfl) rfl (fun _ _ _ h => h.2.elim) ?_
      refine AnyJ.valU rfl rfl rfl (opV_field Fx.fld_51_1 rfl) rfl (fun _ _ _ h => h.2.elim) ?_
      refine AnyJ.val rfl rfl (opV_load Fx.scal_9 rfl (by repeat (first | exact Cell.one rfl | assumption | apply Cell.tl))) rfl (fun _ _ _ h => h.2.elim) (fun _ h => h.subs (by first | ((repeat (first | exact Sub.refl | exact Sub.nil | apply Sub.emp | (apply Sub.cons; focus ((repeat (first | exact Pick.hd | apply Pick.tl)); done)) | (apply Sub.con; focus ((repeat (first | exact Pick.hd | apply Pick.tl)); done)) | (apply Sub.app; focus ((repeat (first | exact Pick.hd | apply Pick.tl)); done)) | apply Sub.drop)); done) | ((repeat (first | rw [List.append_assoc] | rw [List.cons_append] | rw [List.nil_append] | rw [List.append_nil])); (repeat (first | exact Sub.refl | exact Sub.nil | apply Sub.emp | (apply Sub.cons; focus ((repeat (first | exact Pick.hd | apply Pick.tl)); done)) | (apply Sub.con; focus ((repeat (first | exact Pick.hd | apply Pick.tl)); done)) | (apply Sub.app; focus ((repeat (first | exact Pick.hd | apply Pick.tl)); done)) | apply Sub.drop)); done))) ?_
      refine AnyJ.valU rfl rfl rfl (opV_slen Fx.und_9 rfl) rfl (fun _ _ _ h => h.2.elim) ?_
      refine AnyJ.valU rfl rfl rfl (opV_add64 rfl rfl (by omega)) rfl (fun _ _ _ h => h.2.elim) ?_
      have hnew := sumB_new (v := x.val) (lkp_del_self (k := x.key) hnd)
      refine AnyJ.valU rfl rfl rfl (opV_add64 rfl rfl (by omega)) rfl (fun _ _ _ h => h.2.elim) ?_
      have eA : apE es x = ins x.key x.val (del x.key es) := by simp [apE, hdel]
      have e4 : ((sumB (del x.key es) : Nat) : Int) + ((x.key.length : Int) + (x.val.length : Int)) = ((sumB (apE es x) : Nat) : Int) := by rw [eA, hnew]; omega
      rw [e4]
      refine AnyJ.valU rfl rfl rfl (opV_nil rfl) rfl (fun _ _ _ h => h.2.elim) ?_
      refine AnyJ.valU rfl rfl rfl (opV_field Fx.fld_154_2 rfl) rfl (fun _ _ _ h => h.2.elim) ?_
      refine AnyJ.st rfl rfl (opS_store Fx.scal_3 Fx.sz1_3 rfl rfl (by first | rfl | assumption | exact Row.one (by assumption) | exact Sl.one (by assumption)) rfl (by repeat (first | exact Upd.hd | apply Upd.tl)) (by repeat (first | exact LSet.hd | apply LSet.tl))) (by first | (intro _ _ h; refine h.subs ?_; (repeat (first | exact Sub.refl | exact Sub.nil | apply Sub.emp | (apply Sub.cons; focus ((repeat (first | exact Pick.hd | apply Pick.tl)); done)) | (apply Sub.con; focus ((repeat (first | exact Pick.hd | apply Pick.tl)); done)) | (apply Sub.app; focus ((repeat (first | exact Pick.hd | apply Pick.tl)); done)) | apply Sub.drop)); done) | exact lead_no (by kernel_rfl)) ?_
      refine AnyJ.nil ?_
      exact Ex.end0 rfl (fun _ h => h.subs (by first | ((repeat (first | exact Sub.refl | exact Sub.nil | apply Sub.emp | (apply Sub.cons; focus ((repeat (first | exact Pick.hd | apply Pick.tl)); done)) | (apply Sub.con; focus ((repeat (first | exact Pick.hd | apply Pick.tl)); done)) | (apply Sub.app; focus ((repeat (first | exact Pick.hd | apply Pick.tl)); done)) | apply Sub.drop)); done) | ((repeat (first | rw [List.append_assoc] | rw [List.cons_append] | rw [List.nil_append] | rw [List.append_nil])); (repeat (first | exact Sub.refl | exact Sub.nil | apply Sub.emp | (apply Sub.cons; focus ((repeat (first | exact Pick.hd | apply Pick.tl)); done)) | (apply Sub.con; focus ((repeat (first | exact Pick.hd | apply Pick.tl)); done)) | (apply Sub.app; focus ((repeat (first | exact Pick.hd | apply Pick.tl)); done)) | apply Sub.drop)); done))) ⟨rfl, _, ⟨mb, ob2, by rw [eA, ← cv_ins]; exact hM2, rfl⟩, rfl⟩
    · try simp at hdel
      replace hdel : x.del = true := by simpa using hdel
      have eA : apE es x = del x.key es := by simp [apE, hdel]
      rw [← eA]
      refine Cod.skip ?_
      exact Ex.end0 rfl (fun _ h => h.subs (by first | ((repeat (first | exact Sub.refl | exact Sub.nil | apply Sub.emp | (apply Sub.cons; focus ((repeat (first | exact Pick.hd | apply Pick.tl)); done)) | (apply Sub.con; focus ((repeat (first | exact Pick.hd | apply Pick.tl)); done)) | (apply Sub.app; focus ((repeat (first | exact Pick.hd | apply Pick.tl)); done)) | apply Sub.drop)); done) | ((repeat (first | rw [List.append_assoc] | rw [List.cons_append] | rw [List.nil_append] | rw [List.append_nil])); (repeat (first | exact Sub.refl | exact Sub.nil | apply Sub.emp | (apply Sub.cons; focus ((repeat (first | exact Pick.hd | apply Pick.tl)); done)) | (apply Sub.con; focus ((repeat (first | exact Pick.hd | apply Pick.tl)); done)) | (apply Sub.app; focus ((repeat (first | exact Pick.hd | apply Pick.tl)); done)) | apply Sub.drop)); done))) ⟨rfl, _, ⟨mb, ob1, by rw [eA]; exact hM1, rfl⟩, rfl⟩
theorem get_spec (hw : Owns e w As) (hA : Has e As A) (hC : CatM c lv es A) :
    Calls Tryz.prog 21 #[.pointer (some ⟨c, 0, none⟩), S key] w (Ret e fun u Bs => u = .tuple #[S ((lkp key es).getD []), .bool (lkp key es).isSome] ∧ Bs = As) := by
  obtain ⟨mb, ob, hM, rfl⟩ := hC
  refine enter Tryz.func21 rfl Tryz.ntmps21 hw rfl ?_
  skip
  rcases hq : lkp key es with _ | old
  · skip
    refine Cod.seq ?_
    refine Cod.region ?_
    refine Ops.val (opV_assign rfl) rfl ?_
    refine Ops.val (opV_assign rfl) rfl ?_
    refine Ops.nil ?_
    refine Ex.next ?_
    refine Cod.seq ?_
    refine Cod.region ?_
    refine Ops.val (opV_move rfl) rfl ?_
    refine Ops.val (opV_nil rfl) rfl ?_
    refine Ops.val (opV_field Fx.fld_154_1 rfl) rfl ?_
    refine Ops.val (opV_load Fx.scal_149 rfl (cellOf hA (List.Mem.head _) rfl)) rfl ?_
    refine Ops.val (opV_move rfl) rfl ?_
    refine Ops.val (opV_lookup2 (κ := Str) Fx.map_149 rfl rfl hA (.tail _ (.head _)) hM) rfl ?_
    rw [cv_lkp, hq]
    refine Ops.val (opV_move rfl) rfl ?_
    refine Ops.val (opV_extract rfl rfl) rfl ?_
    refine Ops.val (opV_extract rfl rfl) rfl ?_
    refine Ops.eff rfl (opE_alloc Fx.zero_152) rfl ?_
    rintro _ _ ⟨b6, rfl, rfl⟩
    refine Ops.st rfl (opS_storeA Fx.agg_152 rfl rfl rfl (by (try simp only [putAt]); simp only [List.mem_cons, List.not_mem_nil, or_false]; (try simp only [forall_eq_or_imp]); (try simp only [forall_eq]); (repeat' apply And.intro) <;> first | rfl | assumption | exact Row.one (by assumption) | exact Sl.one (by assumption)) rfl (by repeat (first | exact Upd.hd | apply Upd.tl)) rfl) ?_
    refine Ops.val (opV_assign rfl) rfl ?_
    refine Ops.nil ?_
    refine Ex.next ?_
    refine Cod.seq ?_
    refine Cod.region ?_
    refine Ops.val (opV_field Fx.fld_152_0 rfl) rfl ?_
    refine Ops.val (opV_load Fx.scal_9 rfl (by repeat (first | exact Cell.one rfl | assumption | apply Cell.tl))) rfl ?_
    refine Ops.val (opV_move rfl) rfl ?_
    refine Ops.val (opV_assign rfl) rfl ?_
    refine Ops.val (opV_assign rfl) rfl ?_
    refine Ops.nil ?_
    refine Ex.next ?_
    refine Cod.ret ?_
    exact Ex.ret2 rfl rfl rfl (fun _ h => h.subs (by first | ((repeat (first | exact Sub.refl | exact Sub.nil | apply Sub.emp | (apply Sub.cons; focus ((repeat (first | exact Pick.hd | apply Pick.tl)); done)) | (apply Sub.con; focus ((repeat (first | exact Pick.hd | apply Pick.tl)); done)) | (apply Sub.app; focus ((repeat (first | exact Pick.hd | apply Pick.tl)); done)) | apply Sub.drop)); done) | ((repeat (first | rw [List.append_assoc] | rw [List.cons_append] | rw [List.nil_append] | rw [List.append_nil])); (repeat (first | exact Sub.refl | exact Sub.nil | apply Sub.emp | (apply Sub.cons; focus ((repeat (first | exact Pick.hd | apply Pick.tl)); done)) | (apply Sub.con; focus ((repeat (first | exact Pick.hd | apply Pick.tl)); done)) | (apply Sub.app; focus ((repeat (first | exact Pick.hd | apply Pick.tl)); done)) | apply Sub.drop)); done))) ⟨rfl, rfl⟩
  · skip
    refine Cod.seq ?_
    refine Cod.region ?_
    refine Ops.val (opV_assign rfl) rfl ?_
    refine Ops.val (opV_assign rfl) rfl ?_
    refine Ops.nil ?_
    refine Ex.next ?_
    refine Cod.seq ?_
    refine Cod.region ?_
    refine Ops.val (opV_move rfl) rfl ?_
    refine Ops.val (opV_nil rfl) rfl ?_
    refine Ops.val (opV_field Fx.fld_154_1 rfl) rfl ?_
    refine Ops.val (opV_load Fx.scal_149 rfl (cellOf hA (List.Mem.head _) rfl)) rfl ?_
    refine Ops.val (opV_move rfl) rfl ?_
    refine Ops.val (opV_lookup2 (κ := Str) Fx.map_149 rfl rfl hA (.tail _ (.head _)) hM) rfl ?_
    rw [cv_lkp, hq]
    refine Ops.val (opV_move rfl) rfl ?_
    refine Ops.val (opV_extract rfl rfl) rfl ?_
    refine Ops.val (opV_extract rfl rfl) rfl ?_
    refine Ops.eff rfl (opE_alloc Fx.zero_152) rfl ?_
    rintro _ _ ⟨b6, rfl, rfl⟩
    refine Ops.st rfl (opS_storeA Fx.agg_152 rfl rfl rfl (by (try simp only [putAt]); simp only [List.mem_cons, List.not_mem_nil, or_false]; (try simp only [forall_eq_or_imp]); (try simp only [forall_eq]); (repeat' apply And.intro) <;> first | rfl | assumption | exact Row.one (by assumption) | exact Sl.one (by assumption)) rfl (by repeat (first | exact Upd.hd | apply Upd.tl)) rfl) ?_
    refine Ops.val (opV_assign rfl) rfl ?_
    refine Ops.nil ?_
    refine Ex.next ?_
    refine Cod.seq ?_
    refine Cod.region ?_
    refine Ops.val (opV_field Fx.fld_152_0 rfl) rfl ?_
    refine Ops.val (opV_load Fx.scal_9 rfl (by repeat (first | exact Cell.one rfl | assumption | apply Cell.tl))) rfl ?_
    refine Ops.val (opV_move rfl) rfl ?_
    refine Ops.val (opV_assign rfl) rfl ?_
    refine Ops.val (opV_assign rfl) rfl ?_
    refine Ops.nil ?_
    refine Ex.next ?_
    refine Cod.ret ?_
    exact Ex.ret2 rfl rfl rfl (fun _ h => h.subs (by first | ((repeat (first | exact Sub.refl | exact Sub.nil | apply Sub.emp | (apply Sub.cons; focus ((repeat (first | exact Pick.hd | apply Pick.tl)); done)) | (apply Sub.con; focus ((repeat (first | exact Pick.hd | apply Pick.tl)); done)) | (apply Sub.app; focus ((repeat (first | exact Pick.hd | apply Pick.tl)); done)) | apply Sub.drop)); done) | ((repeat (first | rw [List.append_assoc] | rw [List.cons_append] | rw [List.nil_append] | rw [List.append_nil])); (repeat (first | exact Sub.refl | exact Sub.nil | apply Sub.emp | (apply Sub.cons; focus ((repeat (first | exact Pick.hd | apply Pick.tl)); done)) | (apply Sub.con; focus ((repeat (first | exact Pick.hd | apply Pick.tl)); done)) | (apply Sub.app; focus ((repeat (first | exact Pick.hd | apply Pick.tl)); done)) | apply Sub.drop)); done))) ⟨rfl, rfl⟩
theorem decode_spec {m : Nat} (hm : m = (encF cs).length) (hl : (encF cs).length ≤ 900000000) (hw : Owns e w As) (hA : Has e As A) (hv : Sl A 1 v m (bcells (encF cs))) :
    Calls Tryz.prog 77 #[v] w (Ret e fun u Bs => ∃ v' A', u = .tuple #[v', .bool true] ∧ Row 51 3 v' cs.length (chs cs) A' ∧ Bs = A' :: As) := by
  subst hm
  have hn9 : cs.length * 9 ≤ (encF cs).length := by rw [encF_len]; exact len_chW cs
  refine enter Tryz.func77 rfl Tryz.ntmps77 hw rfl ?_
  refine Cod.seq ?_
  refine Cod.region ?_
  refine Ops.val (opV_assign rfl) rfl ?_
  refine Ops.val (opV_assign rfl) rfl ?_
  refine Ops.nil ?_
  refine Ex.next ?_
  refine Cod.seq ?_
  refine Cod.region ?_
  refine Ops.val (opV_move rfl) rfl ?_
  refine Ops.call rfl (opC_call Fx.cal_150 rfl (fun w hw => newReader rfl hw hv hA (by omega))) rfl ?_
  rintro v7 _ ⟨rp, R0, rfl, hR0, rfl⟩
  refine Ops.val (opV_assign rfl) rfl ?_
  refine Ops.nil ?_
  refine Ex.next ?_
  refine Cod.seq ?_
  refine Cod.block ?_
  refine Cod.loop (X := Nat × Value × Hp × Hp) (fun (i, u, R, A2) => [(2, u), (4, .pointer (some ⟨rp, 0, none⟩))]) (fun (i, u, R, A2) => R :: A2 :: As) (fun (i, u, R, A2) => i ≤ cs.length ∧ RdA rp 0 (encF (cs.drop i)) R ∧ Row 51 3 u i (chs (cs.take i)) A2) (fun (i, u, R, A2) => cs.length - i) ((0, .slice none 0 0, R0, [])) (⟨Nat.zero_le _, by simpa using hR0, Row.nil _ _⟩) (by repeat (first | exact trivial | refine ⟨rfl, ?_⟩)) (fun _ h => h.subs (by first | ((repeat (first | exact Sub.refl | exact Sub.nil | apply Sub.emp | (apply Sub.cons; focus ((repeat (first | exact Pick.hd | apply Pick.tl)); done)) | (apply Sub.con; focus ((repeat (first | exact Pick.hd | apply Pick.tl)); done)) | (apply Sub.app; focus ((repeat (first | exact Pick.hd | apply Pick.tl)); done)) | apply Sub.drop)); done) | ((repeat (first | rw [List.append_assoc] | rw [List.cons_append] | rw [List.nil_append] | rw [List.append_nil])); (repeat (first | exact Sub.refl | exact Sub.nil | apply Sub.emp | (apply Sub.cons; focus ((repeat (first | exact Pick.hd | apply Pick.tl)); done)) | (apply Sub.con; focus ((repeat (first | exact Pick.hd | apply Pick.tl)); done)) | (apply Sub.app; focus ((repeat (first | exact Pick.hd | apply Pick.tl)); done)) | apply Sub.drop)); done))) ?_
  rintro ⟨i, u, R, A2⟩ ⟨hi, hR, hA2⟩
  try dsimp only
  refine Cod.seq ?_
  refine Cod.seq ?_
  refine Cod.region ?_
  refine Ops.val (opV_move rfl) rfl ?_
  refine Ops.call rfl (opC_call Fx.cal_151 rfl (fun w hw => left_r hw (.mem (List.Mem.head _)) hR)) rfl ?_
  rintro v9 _ ⟨rfl, rfl⟩
  by_cases hc : i < cs.length
  · skip
    obtain ⟨x, hx⟩ : ∃ x, cs[i]? = some x := ⟨_, List.getElem?_eq_getElem (by omega)⟩
    have hdx : cs.drop i = x :: cs.drop (i + 1) := by rw [List.drop_eq_getElem_cons hc, (List.getElem?_eq_some_iff.1 hx).2]
    have hlt : (encF (cs.drop i)).length ≤ (encF cs).length := by
        have : (encF cs).length = (encF (cs.take i)).length + (encF (cs.drop i)).length := by rw [← List.length_append, ← encF_append, List.take_append_drop]
        omega
    rw [hdx] at hR hlt
    simp only [encF] at hR hlt
    have hlt2 := hlt
    simp only [List.length_append, List.length_cons, be_length] at hlt2
    have hpos : 0 < (encF (cs.drop i)).length := by rw [hdx]; simp [encF]
    refine Ops.val (opV_gtr rfl rfl (decide_eq_true (by omega))) rfl ?_
    refine Ops.nil ?_
    refine Ex.next ?_
    refine Cod.condT rfl ?_
    refine Cod.skip ?_
    refine Ex.next ?_
    refine Cod.block ?_
    refine Cod.seq ?_
    refine Cod.region ?_
    refine Ops.val (opV_move rfl) rfl ?_
    refine Ops.call rfl (opC_call Fx.cal_152 rfl (fun w hw => bit_r hw .hd hR (by split <;> simp) (by simp only [List.length_append, List.length_cons, be_length]; omega))) rfl ?_
    rintro v12 _ ⟨rfl, R1, bt1, hR1, rfl⟩
    refine Ops.val (opV_move rfl) rfl ?_
    refine Ops.call rfl (opC_call Fx.cal_153 rfl (fun w hw => longStr_r hw .hd hR1 (by simp only [List.length_append, be_length]; omega))) rfl ?_
    rintro v14 _ ⟨rfl, R2, hR2, rfl⟩
    refine Ops.val (opV_move rfl) rfl ?_
    refine Ops.call rfl (opC_call Fx.cal_153 rfl (fun w hw => longStr_r hw .hd hR2 (by simp only [List.length_append, be_length]; omega))) rfl ?_
    rintro v16 _ ⟨rfl, R3, hR3, rfl⟩
    have hdb : decide ((if x.del = true then (1 : UInt8) else 0) = 1) = x.del := by cases x.del <;> rfl
    rw [hdb]
    refine Ops.val (opV_build Fx.st_51 rfl (by first | (simp [fillL, vcells, putAt]; rfl) | (simp [fillL, vcells, putAt]; done) | rfl)) rfl ?_
    refine Ops.eff rfl (opE_alloc Fx.zero_51) rfl ?_
    rintro _ _ ⟨b5, rfl, rfl⟩
    refine Ops.st rfl (opS_storeA Fx.agg_51 rfl rfl rfl (by (try simp only [putAt]); simp only [List.mem_cons, List.not_mem_nil, or_false]; (try simp only [forall_eq_or_imp]); (try simp only [forall_eq]); (repeat' apply And.intro) <;> first | rfl | assumption | exact Row.one (by assumption) | exact Sl.one (by assumption)) rfl (by repeat (first | exact Upd.hd | apply Upd.tl)) rfl) ?_
    refine Ops.nil ?_
    refine Ex.next ?_
    refine Cod.seq ?_
    refine Cod.seq ?_
    refine Cod.region ?_
    refine Ops.val (opV_move rfl) rfl ?_
    refine Ops.call rfl (opC_call Fx.cal_154 rfl (fun w hw => err_r hw (.mem (by repeat (first | exact List.Mem.head _ | apply List.Mem.tail))) hR3)) rfl ?_
    rintro v19 _ ⟨rfl, rfl⟩
    refine Ops.val (opV_neq rfl rfl (by first | exact decide_eq_true (by omega) | exact decide_eq_false (by omega) | rfl)) rfl ?_
    refine Ops.nil ?_
    refine Ex.next ?_
    refine Cod.condF rfl ?_
    refine Cod.skip ?_
    refine Ex.next ?_
    refine Cod.region ?_
    refine Ops.val (opV_move rfl) rfl ?_
    refine Ops.val (opV_loadW Fx.agg_51 rfl (.mem (by repeat (first | exact List.Mem.head _ | apply List.Mem.tail))) (List.Mem.head _) rfl) rfl ?_
    refine Ops.eff rfl (opE_buildSlice Fx.sl_39 rfl rfl (by first | (simp [fillL, rowCells, vcells, putAt]; rfl) | (simp [fillL, rowCells, vcells, putAt]; done) | rfl)) rfl ?_
    rintro _ _ ⟨b23, rfl, rfl⟩
    refine Ops.eff rfl (opE_append Fx.sl_39 rfl Fx.ni_39 rfl rfl (by repeat (first | exact Pick.hd | apply Pick.tl)) hA2 (one_src (.mem (by repeat (first | exact List.Mem.head _ | apply List.Mem.tail))) rfl (by simp [Value.oneCell'])) (by omega) (by simp [maxLen]; omega)) rfl ?_
    rintro v24 _ ⟨A24, hA24, rfl⟩
    refine Ops.val (opV_assign rfl) rfl ?_
    refine Ops.nil ?_
    refine Ex.blockNormal ?_
    refine Ex.toN (fun _ _ hs => ⟨(i + 1, v24, R3, A24), ⟨by dsimp only; omega, hR3, by rw [List.take_add_one, hx]; simpa [chs, chV] using hA24⟩, (by first | omega | (dsimp only; omega) | (simp; omega) | (simp; done)), hs⟩) (by repeat (first | exact trivial | refine ⟨rfl, ?_⟩)) (fun _ h => h.subs (by first | ((repeat (first | exact Sub.refl | exact Sub.nil | apply Sub.emp | (apply Sub.cons; focus ((repeat (first | exact Pick.hd | apply Pick.tl)); done)) | (apply Sub.con; focus ((repeat (first | exact Pick.hd | apply Pick.tl)); done)) | (apply Sub.app; focus ((repeat (first | exact Pick.hd | apply Pick.tl)); done)) | apply Sub.drop)); done) | ((repeat (first | rw [List.append_assoc] | rw [List.cons_append] | rw [List.nil_append] | rw [List.append_nil])); (repeat (first | exact Sub.refl | exact Sub.nil | apply Sub.emp | (apply Sub.cons; focus ((repeat (first | exact Pick.hd | apply Pick.tl)); done)) | (apply Sub.con; focus ((repeat (first | exact Pick.hd | apply Pick.tl)); done)) | (apply Sub.app; focus ((repeat (first | exact Pick.hd | apply Pick.tl)); done)) | apply Sub.drop)); done)))
  · skip
    obtain rfl : i = cs.length := by omega
    have h0 : (encF (cs.drop cs.length)).length = 0 := by simp [encF]
    refine Ops.val (opV_gtr rfl rfl (decide_eq_false (by omega))) rfl ?_
    refine Ops.nil ?_
    refine Ex.next ?_
    refine Cod.condF rfl ?_
    rw [List.take_length] at hA2
    refine Cod.exit ?_
    refine Ex.thenExit ?_
    refine Ex.thenExit ?_
    refine Ex.blockHit ?_
    refine Ex.next ?_
    refine Cod.seq ?_
    refine Cod.region ?_
    refine Ops.val (opV_move rfl) rfl ?_
    refine Ops.val (opV_assign rfl) rfl ?_
    refine Ops.val (opV_assign rfl) rfl ?_
    refine Ops.nil ?_
    refine Ex.next ?_
    refine Cod.ret ?_
    exact Ex.ret2 rfl rfl rfl (fun _ h => h.subs (by first | ((repeat (first | exact Sub.refl | exact Sub.nil | apply Sub.emp | (apply Sub.cons; focus ((repeat (first | exact Pick.hd | apply Pick.tl)); done)) | (apply Sub.con; focus ((repeat (first | exact Pick.hd | apply Pick.tl)); done)) | (apply Sub.app; focus ((repeat (first | exact Pick.hd | apply Pick.tl)); done)) | apply Sub.drop)); done) | ((repeat (first | rw [List.append_assoc] | rw [List.cons_append] | rw [List.nil_append] | rw [List.append_nil])); (repeat (first | exact Sub.refl | exact Sub.nil | apply Sub.emp | (apply Sub.cons; focus ((repeat (first | exact Pick.hd | apply Pick.tl)); done)) | (apply Sub.con; focus ((repeat (first | exact Pick.hd | apply Pick.tl)); done)) | (apply Sub.app; focus ((repeat (first | exact Pick.hd | apply Pick.tl)); done)) | apply Sub.drop)); done))) ⟨u, A2, rfl, hA2, rfl⟩
end
end Go.Proofs.YteejmoldhbfdnaaGreatDoor.Cat
