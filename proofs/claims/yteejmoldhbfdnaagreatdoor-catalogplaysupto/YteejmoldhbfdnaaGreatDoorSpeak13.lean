/- warrenlaw13.speaks: the example of the document. -/
import Derived.Test.YteejmoldhbfdnaaGreatDoorLaw13
set_option maxRecDepth 8000
namespace Go.Proofs.YteejmoldhbfdnaaGreatDoor.Speak13
open Go.W Go.RowKit Lib1 Oct OctR Seal Disk Disk2 Wal Num Wal2 Wal3 CatL Cat Cat2 Cat3 Cat4 LogL CInv Law13
namespace Fx
theorem cal_17 : callable Tryz.prog 17 = true := by kernel_rfl
theorem cal_18 : callable Tryz.prog 18 = true := by kernel_rfl
theorem cal_19 : callable Tryz.prog 19 = true := by kernel_rfl
theorem cal_21 : callable Tryz.prog 21 = true := by kernel_rfl
theorem cal_27 : callable Tryz.prog 27 = true := by kernel_rfl
theorem cal_28 : callable Tryz.prog 28 = true := by kernel_rfl
theorem cal_30 : callable Tryz.prog 30 = true := by kernel_rfl
theorem ptr_43 : ptrT Tryz.prog 43 = true := by kernel_rfl
theorem sl_39 : slInfo Tryz.prog 39 = some (51, 3, 40, some (.agg #[(S []), (S []), (.bool false)])) := by kernel_rfl
theorem sl_47 : slInfo Tryz.prog 47 = some (74, 2, 32, some (.agg #[(S []), (S [])])) := by kernel_rfl
theorem sl_67 : slInfo Tryz.prog 67 = some (9, 1, 16, some (S [])) := by kernel_rfl
theorem st_51 : stInfo Tryz.prog 51 = some (#[(S []), (S []), (.bool false)], #[(0, 1), (1, 1), (2, 1)]) := by kernel_rfl

end Fx
def cs1 : List Ch := [⟨[97], [49], false⟩, ⟨[98], [50], false⟩]
def cs2 : List Ch := [⟨[97], [], true⟩, ⟨[99], [51], false⟩]
def e1 : List Pr := [([97], [49]), ([98], [50])]
def e2 : List Pr := [([98], [50]), ([99], [51])]
theorem c1 : codeF [] cs1 = 0 := by decide
theorem d1 : doneF [] cs1 = true := by decide
theorem a1 : afterE [] cs1 = e1 := rfl
theorem c2 : codeF e1 cs2 = 0 := by decide
theorem d2 : doneF e1 cs2 = true := by decide
theorem a2 : afterE e1 cs2 = e2 := rfl
theorem sk2 : sk e2 = [[98], [99]] := by unfold sk; exact List.mergeSort_of_pairwise (by decide)
theorem two_sl {b : Nat} {x y : Ch} : Sl [(b, .cells #[S x.key, S x.val, .bool x.del, S y.key, S y.val, .bool y.del] 51)] 3 (.slice (some ⟨b, 0, none⟩) 2 2) 2 (chs [x, y]) :=
  ⟨rfl, .inr ⟨b, 0, 2, _, 51, (0, 0), rfl, Nat.le_refl _, .head _, rfl⟩⟩
theorem two_txt {b : Nat} {x y : Str} : Sl [(b, .cells #[S x, S y] 9)] 1 (.slice (some ⟨b, 0, none⟩) 2 2) 2 ([x, y].map S) :=
  ⟨rfl, .inr ⟨b, 0, 2, _, 9, (0, 0), rfl, Nat.le_refl _, .head _, rfl⟩⟩
section
variable {e : Ctx} {w : World} {As F G H : List Hp}
theorem speaks (hG : Glob e) (hE : Kit.HasErr e) (hw : Owns e w As) : Calls Tryz.prog 16 #[] w (Ret e fun u Bs => u = .bool true ∧ Bs = As) := by
  refine enter Tryz.func16 rfl Tryz.ntmps16 hw rfl ?_
  refine Cod.seq ?_
  refine Cod.region ?_
  refine Ops.val (opV_assign rfl) rfl ?_
  refine Ops.nil ?_
  refine Ex.next ?_
  refine Cod.seq ?_
  refine Cod.region ?_
  refine Ops.call rfl (opC_call Fx.cal_17 rfl (fun w hw => opened hG hE hw)) rfl ?_
  rintro v6 _ ⟨d, c, lb, A, DA, rfl, hA, hDA, rfl⟩
  refine Ops.val (opV_move rfl) rfl ?_
  refine Ops.val (opV_extract rfl rfl) rfl ?_
  refine Ops.val (opV_extract rfl rfl) rfl ?_
  refine Ops.val (opV_assign rfl) rfl ?_
  refine Ops.val (opV_assign rfl) rfl ?_
  refine Ops.nil ?_
  refine Ex.next ?_
  refine Cod.seq ?_
  refine Cod.seq ?_
  refine Cod.region ?_
  refine Ops.val (opV_move rfl) rfl ?_
  refine Ops.val (opV_ptrnil Fx.ptr_43 rfl rfl rfl) rfl ?_
  refine Ops.val (opV_move rfl) rfl ?_
  refine Ops.valg rfl (opV_move rfl) rfl ?_
  refine Ops.valg rfl (opV_build Fx.st_51 rfl (by first | (simp [fillL, vcells, putAt]; rfl) | (simp [fillL, vcells, putAt]; done) | rfl)) rfl ?_
  refine Ops.valg rfl (opV_build Fx.st_51 rfl (by first | (simp [fillL, vcells, putAt]; rfl) | (simp [fillL, vcells, putAt]; done) | rfl)) rfl ?_
  refine Ops.eff rfl (opE_buildSlice Fx.sl_39 rfl rfl (by first | (simp [fillL, rowCells, vcells, putAt]; rfl) | (simp [fillL, rowCells, vcells, putAt]; done) | rfl)) rfl ?_
  rintro _ _ ⟨b15, rfl, rfl⟩
  refine Ops.call rfl (opC_call Fx.cal_18 rfl (fun w hw => commitCI (cs := cs1) (m := 2) rfl hG CI.start (by decide) (by omega) hw (A := A) (by repeat (first | exact Pick.hd | apply Pick.tl)) (DA := DA) (by repeat (first | exact Pick.hd | apply Pick.tl)) (by repeat (first | exact Pick.hd | apply Pick.tl)) hA hDA (.mem (by repeat (first | exact List.Mem.head _ | apply List.Mem.tail))) two_sl)) rfl ?_
  rintro v16 _ ⟨rfl, hist1, size1, Dx, A1, DA1, hCI1, hA1, hDA1, rfl⟩
  rw [d1, if_pos rfl, a1] at hA1 hCI1
  rw [c1]
  refine Ops.valg rfl (opV_neq rfl rfl (by first | exact decide_eq_true (by omega) | exact decide_eq_false (by omega) | rfl)) rfl ?_
  refine Ops.val (opV_pickF rfl rfl) rfl ?_
  refine Ops.val (opV_move rfl) rfl ?_
  refine Ops.valg rfl (opV_move rfl) rfl ?_
  refine Ops.valg rfl (opV_build Fx.st_51 rfl (by first | (simp [fillL, vcells, putAt]; rfl) | (simp [fillL, vcells, putAt]; done) | rfl)) rfl ?_
  refine Ops.valg rfl (opV_build Fx.st_51 rfl (by first | (simp [fillL, vcells, putAt]; rfl) | (simp [fillL, vcells, putAt]; done) | rfl)) rfl ?_
  refine Ops.eff rfl (opE_buildSlice Fx.sl_39 rfl rfl (by first | (simp [fillL, rowCells, vcells, putAt]; rfl) | (simp [fillL, rowCells, vcells, putAt]; done) | rfl)) rfl ?_
  rintro _ _ ⟨b23, rfl, rfl⟩
  refine Ops.call rfl (opC_call Fx.cal_18 rfl (fun w hw => commitCI (cs := cs2) (m := 2) rfl hG hCI1 (by decide) (by omega) hw (A := A1) (by repeat (first | exact Pick.hd | apply Pick.tl)) (DA := DA1) (by repeat (first | exact Pick.hd | apply Pick.tl)) (by repeat (first | exact Pick.hd | apply Pick.tl)) hA1 hDA1 (.mem (by repeat (first | exact List.Mem.head _ | apply List.Mem.tail))) two_sl)) rfl ?_
  rintro v24 _ ⟨rfl, hist2, size2, Dy, A2, DA2, hCI2, hA2, hDA2, rfl⟩
  rw [d2, if_pos rfl, a2] at hA2 hCI2
  rw [c2]
  refine Ops.valg rfl (opV_neq rfl rfl (by first | exact decide_eq_true (by omega) | exact decide_eq_false (by omega) | rfl)) rfl ?_
  refine Ops.val (opV_pickF rfl rfl) rfl ?_
  refine Ops.nil ?_
  refine Ex.next ?_
  refine Cod.condF rfl ?_
  refine Cod.skip ?_
  refine Ex.next ?_
  refine Cod.seq ?_
  refine Cod.region ?_
  refine Ops.val (opV_move rfl) rfl ?_
  refine Ops.call rfl (opC_call Fx.cal_21 rfl (fun w hw => get_spec (key := [99]) hw (A := A2) (.mem (by repeat (first | exact List.Mem.head _ | apply List.Mem.tail))) hA2)) rfl ?_
  rintro v29 _ ⟨rfl, rfl⟩
  refine Ops.val (opV_move rfl) rfl ?_
  refine Ops.val (opV_extract rfl rfl) rfl ?_
  refine Ops.val (opV_extract rfl rfl) rfl ?_
  refine Ops.val (opV_assign rfl) rfl ?_
  refine Ops.val (opV_assign rfl) rfl ?_
  refine Ops.nil ?_
  refine Ex.next ?_
  refine Cod.seq ?_
  refine Cod.region ?_
  refine Ops.val (opV_move rfl) rfl ?_
  refine Ops.call rfl (opC_call Fx.cal_27 rfl (fun w hw => keys_spec (es := e2) (pre := []) (by decide) (by decide) hw (A := A2) (.mem (by repeat (first | exact List.Mem.head _ | apply List.Mem.tail))) hA2)) rfl ?_
  rintro v33 _ ⟨AK, hAK, rfl⟩
  rw [filter_nil, sk2] at hAK
  refine Ops.eff rfl (opE_buildSlice Fx.sl_67 rfl rfl (by first | (simp [fillL, rowCells, vcells, putAt]; rfl) | (simp [fillL, rowCells, vcells, putAt]; done) | rfl)) rfl ?_
  rintro _ _ ⟨b34, rfl, rfl⟩
  refine Ops.call rfl (opC_call Fx.cal_28 rfl (fun w hw => sameTexts (xs := [[98], [99]]) (ys := [[98], [99]]) hw (A := AK) (.mem (by repeat (first | exact List.Mem.head _ | apply List.Mem.tail))) (.mem (by repeat (first | exact List.Mem.head _ | apply List.Mem.tail))) rfl rfl (by decide) hAK.sl two_txt)) rfl ?_
  rintro v35 _ ⟨rfl, rfl⟩
  refine Ops.val (opV_move rfl) rfl ?_
  refine Ops.valg rfl (opV_move rfl) rfl ?_
  refine Ops.valg rfl (opV_seql rfl rfl rfl) rfl ?_
  refine Ops.val (opV_pickT rfl rfl) rfl ?_
  refine Ops.val (opV_move rfl) rfl ?_
  refine Ops.valg rfl (opV_move rfl) rfl ?_
  refine Ops.val (opV_pickT rfl rfl) rfl ?_
  refine Ops.val (opV_move rfl) rfl ?_
  refine Ops.valg rfl (opV_move rfl) rfl ?_
  refine Ops.call rfl (opC_call Fx.cal_19 rfl (fun w hw => pairsCI hCI2 hw (A := A2) (.mem (by repeat (first | exact List.Mem.head _ | apply List.Mem.tail))) hA2)) rfl ?_
  rintro v45 _ ⟨AP, hAP, rfl⟩
  refine Ops.valg rfl (opV_len Fx.sl_47 rfl hAP.isSlice) rfl ?_
  rw [pairs_len]
  refine Ops.valg rfl (opV_eql rfl rfl (by first | exact decide_eq_true (by omega) | exact decide_eq_false (by omega) | rfl)) rfl ?_
  refine Ops.val (opV_pickT rfl rfl) rfl ?_
  refine Ops.val (opV_move rfl) rfl ?_
  refine Ops.valg rfl (opV_move rfl) rfl ?_
  refine Ops.call rfl (opC_call Fx.cal_30 rfl (fun w hw => compactCI hG hCI2 (by decide) (by omega) hw (A := A2) (by repeat (first | exact Pick.hd | apply Pick.tl)) (DA := DA2) (by repeat (first | exact Pick.hd | apply Pick.tl)) (by repeat (first | exact Pick.hd | apply Pick.tl)) hA2 hDA2)) rfl ?_
  rintro v51 _ ⟨rfl, _, _, _, DA3, _, _, _, rfl⟩
  refine Ops.valg rfl (opV_eql rfl rfl (by first | exact decide_eq_true (by omega) | exact decide_eq_false (by omega) | rfl)) rfl ?_
  refine Ops.val (opV_pickT rfl rfl) rfl ?_
  refine Ops.val (opV_assign rfl) rfl ?_
  refine Ops.nil ?_
  refine Ex.next ?_
  refine Cod.ret ?_
  exact Ex.ret1 rfl rfl (fun _ h => h.subs (by first | ((repeat (first | exact Sub.refl | exact Sub.nil | apply Sub.emp | (apply Sub.cons; focus ((repeat (first | exact Pick.hd | apply Pick.tl)); done)) | (apply Sub.con; focus ((repeat (first | exact Pick.hd | apply Pick.tl)); done)) | (apply Sub.app; focus ((repeat (first | exact Pick.hd | apply Pick.tl)); done)) | apply Sub.drop)); done) | ((repeat (first | rw [List.append_assoc] | rw [List.cons_append] | rw [List.nil_append] | rw [List.append_nil])); (repeat (first | exact Sub.refl | exact Sub.nil | apply Sub.emp | (apply Sub.cons; focus ((repeat (first | exact Pick.hd | apply Pick.tl)); done)) | (apply Sub.con; focus ((repeat (first | exact Pick.hd | apply Pick.tl)); done)) | (apply Sub.app; focus ((repeat (first | exact Pick.hd | apply Pick.tl)); done)) | apply Sub.drop)); done))) ⟨rfl, rfl⟩
end
end Go.Proofs.YteejmoldhbfdnaaGreatDoor.Speak13
