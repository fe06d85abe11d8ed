/- Package disk: Open with files, Crash. -/
import Derived.Test.YteejmoldhbfdnaaGreatDoorCrashL
import Derived.Test.YteejmoldhbfdnaaGreatDoorDiskL
import Derived.Test.YteejmoldhbfdnaaGreatDoorKit2
import Derived.Sort.Walk0
set_option maxRecDepth 8000
namespace Go.Proofs.YteejmoldhbfdnaaGreatDoor.Crash
open Go.W Go.RowKit Lib1 Oct OctR Seal Disk Disk2
namespace Fx
theorem agg_159 : aggSz Tryz.prog 159 = some 2 := by kernel_rfl
theorem cal_61 : callable Tryz.prog 61 = true := by kernel_rfl
theorem cal_74 : callable Tryz.prog 74 = true := by kernel_rfl
theorem fld_144_0 : fieldOff Tryz.prog 144 0 = some 0 := by kernel_rfl
theorem fld_144_3 : fieldOff Tryz.prog 144 3 = some 3 := by kernel_rfl
theorem fld_159_0 : fieldOff Tryz.prog 159 0 = some 0 := by kernel_rfl
theorem fld_159_1 : fieldOff Tryz.prog 159 1 = some 1 := by kernel_rfl
theorem map_141 : mapInfo Tryz.prog 141 = some (.string, (.pointer none)) := by kernel_rfl
theorem scal_141 : scalarB Tryz.prog 141 = true := by kernel_rfl
theorem scal_29 : scalarB Tryz.prog 29 = true := by kernel_rfl
theorem scal_3 : scalarB Tryz.prog 3 = true := by kernel_rfl
theorem scal_9 : scalarB Tryz.prog 9 = true := by kernel_rfl
theorem sl_29 : slInfo Tryz.prog 29 = some (5, 1, 1, some (.int .u8 0)) := by kernel_rfl
theorem sl_56 : slInfo Tryz.prog 56 = some (159, 2, 40, some (.agg #[(S []), (.slice none 0 0)])) := by kernel_rfl
theorem st_144 : stInfo Tryz.prog 144 = some (#[(.map none), (.slice none 0 0), (.int .i64 0), (.int .i64 0)], #[(0, 1), (1, 1), (2, 1), (3, 1)]) := by kernel_rfl
theorem st_163 : stInfo Tryz.prog 163 = some (#[(.slice none 0 0), (.slice none 0 0)], #[(0, 1), (1, 1)]) := by kernel_rfl
theorem sz1_3 : (Tryz.prog.info? 3).map (·.size) = some 1 := by kernel_rfl
theorem zero_159 : (Tryz.prog.info? 159).bind (·.zero) = some (.agg #[(S []), (.slice none 0 0)]) := by kernel_rfl

end Fx
def lastN (fs : List (Str × Str)) : Nat → Str
  | 0 => []
  | i + 1 => match fs[i]? with
    | some x => x.1
    | none => []
theorem last_lt {fs : List (Str × Str)} (hg : ∀ x ∈ fs, good x.1) (hasc : (fs.map Prod.fst).Pairwise (· < ·)) {i : Nat} {x : Str × Str} (hx : fs[i]? = some x) : (Op.bytesLess x.1 (lastN fs i) || decide (x.1 = lastN fs i)) = false := by
  have hne := (hg x (List.mem_of_getElem? hx)).1
  cases i with
  | zero =>
    have h0 : Op.bytesLess x.1 (lastN fs 0) = false := by unfold lastN; cases x.1 <;> rfl
    rw [h0, Bool.false_or]
    exact decide_eq_false hne
  | succ i =>
    have hi := (List.getElem?_eq_some_iff.1 hx).1
    obtain ⟨y, hy⟩ : ∃ y, fs[i]? = some y := ⟨_, List.getElem?_eq_getElem (by omega)⟩
    have hlt : y.1 < x.1 := by
      have h1 := List.pairwise_iff_getElem.1 hasc i (i + 1) (by simp; omega) (by simpa using hi) (by omega)
      obtain ⟨_, e1⟩ := List.getElem?_eq_some_iff.1 hx
      obtain ⟨_, e2⟩ := List.getElem?_eq_some_iff.1 hy
      simpa [e1, e2] using h1
    have hl : lastN fs (i + 1) = y.1 := by simp [lastN, hy]
    rw [hl, bytesLess_eq, Bool.or_eq_false_iff]
    exact ⟨decide_eq_false (List.le_of_lt hlt), decide_eq_false fun q => by rw [q] at hlt; exact absurd hlt (List.lt_irrefl _)⟩
theorem fresh {fs : List (Str × Str)} (hasc : (fs.map Prod.fst).Pairwise (· < ·)) {i : Nat} {x : Str × Str} (hx : fs[i]? = some x) : lkp x.1 ((fs.take i).map dd) = none := by
  rw [lkp_none]
  intro hm
  rw [List.map_map] at hm
  obtain ⟨y, hy, e⟩ := List.mem_map.1 hm
  have e : y.1 = x.1 := e
  obtain ⟨j, hj, hy'⟩ := List.getElem_of_mem hy
  simp only [List.length_take] at hj
  rw [List.getElem_take] at hy'
  have hi := (List.getElem?_eq_some_iff.1 hx).1
  have h1 := List.pairwise_iff_getElem.1 hasc j i (by simp; omega) (by simpa using hi) (by omega)
  obtain ⟨_, e1⟩ := List.getElem?_eq_some_iff.1 hx
  simp only [List.getElem_map, e1, hy', e] at h1
  exact absurd h1 (List.lt_irrefl _)
def bulkF (fs : List (Str × Str)) : Nat := (fs.map fun x => x.2.length).sum
theorem usedF_dd (fs : List (Str × Str)) : usedF (fs.map dd) = bulkF fs := by simp [usedF, bulkF, dd, List.map_map, Function.comp_def]
theorem bulk_take (fs : List (Str × Str)) (i : Nat) : bulkF (fs.take i) ≤ bulkF fs := by
  unfold bulkF; rw [List.map_take]
  conv => rhs; rw [← List.take_append_drop i (fs.map fun x => x.2.length)]
  rw [List.sum_append]; omega
theorem bulk_succ {fs : List (Str × Str)} {i : Nat} {x : Str × Str} (hx : fs[i]? = some x) : bulkF (fs.take (i + 1)) = bulkF (fs.take i) + x.2.length := by
  unfold bulkF; rw [List.take_add_one, hx]; simp
section
variable {e : Ctx} {w : World} {As F : List Hp} {A B KA : Hp} {p : Nat} {fs : List (Str × Str)} {v kv : Value} {vs : List Value} {D : DK} {keep : List Bool} {tear r : Int}
theorem open_files {m : Nat} (hm : m = fs.length) (hg : ∀ x ∈ fs, good x.1) (hasc : (fs.map Prod.fst).Pairwise (· < ·)) (hl : bulkF fs ≤ 900000000) (hn : fs.length ≤ 100000000)
    (hw : Owns e w As) (hA : Has e As A) (hB : Has e As B) (hv : Sl A 2 v m vs) (hF : FL B vs fs) :
    Calls Tryz.prog 22 #[v, .int .i64 r] w (Ret e fun u Bs => ∃ p A', u = .tuple #[.pointer (some ⟨p, 0, none⟩), .int .i64 0] ∧ DiskA p (openD fs r) A' ∧ Bs = A' :: As) := by
  subst hm
  refine enter Tryz.func22 rfl Tryz.ntmps22 hw rfl ?_
  refine Cod.seq ?_
  refine Cod.region ?_
  refine Ops.val (opV_assign rfl) rfl ?_
  refine Ops.val (opV_assign rfl) rfl ?_
  refine Ops.nil ?_
  refine Ex.next ?_
  refine Cod.seq ?_
  refine Cod.region ?_
  refine Ops.eff rfl opE_makeMap rfl ?_
  rintro _ _ ⟨b10, rfl, rfl⟩
  refine Ops.val (opV_move rfl) rfl ?_
  refine Ops.val (opV_build Fx.st_144 rfl (by first | (simp [fillL, vcells, putAt]; rfl) | (simp [fillL, vcells, putAt]; done) | rfl)) rfl ?_
  refine Ops.eff rfl (opE_box rfl) rfl ?_
  rintro _ _ ⟨b13, rfl, rfl⟩
  refine Ops.val (opV_assign rfl) rfl ?_
  refine Ops.nil ?_
  refine Ex.next ?_
  refine Cod.seq ?_
  refine Cod.region ?_
  refine Ops.val (opV_assign rfl) rfl ?_
  refine Ops.nil ?_
  refine Ex.next ?_
  refine Cod.seq ?_
  refine Cod.seq ?_
  refine Cod.region ?_
  refine Ops.val (opV_move rfl) rfl ?_
  refine Ops.val (opV_len Fx.sl_56 rfl hv.isSlice) rfl ?_
  refine Ops.val (opV_move rfl) rfl ?_
  refine Ops.nil ?_
  refine Ex.next ?_
  refine Cod.block ?_
  refine Cod.loop (X := Nat × Str × Obj × List (Str × Value) × Hp) (fun (i, la, ob, kvs, FA) => [(6, .pointer (some ⟨b13, 0, none⟩)), (7, S la), (14, v), (15, .int .i64 fs.length), (16, .int .i64 (i : Int))]) (fun (i, la, ob, kvs, FA) => [(b13, .cells #[.map (some b10), .slice none 0 0, .int .i64 r, .int .i64 ((bulkF (fs.take i) : Nat) : Int)] 144)] :: [(b10, ob)] :: FA :: As) (fun (i, la, ob, kvs, FA) => i ≤ fs.length ∧ la = lastN fs i ∧ MapO (κ := Str) kvs ob ∧ Files kvs ((fs.take i).map dd) FA) (fun (i, la, ob, kvs, FA) => fs.length - i) ((0, [], .map #[] 0, [], [])) (⟨Nat.zero_le _, rfl, MapO.new rfl, .nil⟩) (by repeat (first | exact trivial | refine ⟨rfl, ?_⟩)) (fun _ h => h.subs (by first | ((repeat (first | exact Sub.refl | exact Sub.nil | apply Sub.emp | (apply Sub.cons; focus ((repeat (first | exact Pick.hd | apply Pick.tl)); done)) | (apply Sub.con; focus ((repeat (first | exact Pick.hd | apply Pick.tl)); done)) | (apply Sub.app; focus ((repeat (first | exact Pick.hd | apply Pick.tl)); done)) | apply Sub.drop)); done) | ((repeat (first | rw [List.append_assoc] | rw [List.cons_append] | rw [List.nil_append] | rw [List.append_nil])); (repeat (first | exact Sub.refl | exact Sub.nil | apply Sub.emp | (apply Sub.cons; focus ((repeat (first | exact Pick.hd | apply Pick.tl)); done)) | (apply Sub.con; focus ((repeat (first | exact Pick.hd | apply Pick.tl)); done)) | (apply Sub.app; focus ((repeat (first | exact Pick.hd | apply Pick.tl)); done)) | apply Sub.drop)); done))) ?_
  rintro ⟨i, la, ob, kvs, FA⟩ ⟨hi, hla, hM, hFi⟩
  try dsimp only
  refine Cod.seq ?_
  refine Cod.region ?_
  refine Ops.val (opV_lss rfl rfl (by first | exact decide_eq_true (by omega) | exact decide_eq_false (by omega) | rfl)) rfl ?_
  refine Ops.nil ?_
  refine Ex.next ?_
  refine Cod.seq ?_
  refine Cod.cond rfl (fun hc => ?_) (fun hc => ?_)
  · try simp at hc
    obtain ⟨⟨nm, d⟩, hx⟩ : ∃ x, fs[i]? = some x := ⟨_, List.getElem?_eq_getElem (by omega)⟩
    obtain ⟨dv, hget, hdv⟩ := hF.get hx
    have hone := hdv.one
    have hgn := hg _ (List.mem_of_getElem? hx)
    have hlt := last_lt hg hasc hx
    have hfr := fresh hasc hx
    have hbs := bulk_succ hx
    have hbt := bulk_take fs (i + 1)
    rw [← hla] at hlt
    dsimp only at hgn hlt hfr hbs
    have hkn : lkp nm kvs = none := (MapH.none_iff hFi).2 hfr
    refine Cod.skip ?_
    refine Ex.next ?_
    refine Cod.seq ?_
    refine Cod.block ?_
    refine Cod.seq ?_
    refine Cod.region ?_
    refine Ops.val (opV_indexAddr Fx.sl_56 rfl hv (k := i) rfl (by omega)) rfl ?_
    refine Ops.val (opV_loadEA Fx.agg_159 rfl hv hA.up.up.up hget rfl (by decide)) rfl ?_
    refine Ops.eff rfl (opE_alloc Fx.zero_159) rfl ?_
    rintro _ _ ⟨b9, rfl, rfl⟩
    refine Ops.st rfl (opS_storeA Fx.agg_159 rfl rfl rfl (by (try simp only [putAt]); simp only [List.mem_cons, List.not_mem_nil, or_false]; (try simp only [forall_eq_or_imp]); (try simp only [forall_eq]); (repeat' apply And.intro) <;> first | rfl | assumption | exact Row.one (by assumption) | exact Sl.one (by assumption)) rfl (by repeat (first | exact Upd.hd | apply Upd.tl)) rfl) ?_
    refine Ops.nil ?_
    refine Ex.next ?_
    refine Cod.seq ?_
    refine Cod.block ?_
    refine Cod.seq ?_
    refine Cod.region ?_
    refine Ops.val (opV_field Fx.fld_159_0 rfl) rfl ?_
    refine Ops.val (opV_load Fx.scal_9 rfl (by repeat (first | exact Cell.one rfl | assumption | apply Cell.tl))) rfl ?_
    refine Ops.call rfl (opC_call Fx.cal_74 rfl (fun w hw => goodName hgn hw)) rfl ?_
    rintro v23 _ ⟨rfl, rfl⟩
    refine Ops.val (opV_not rfl) rfl ?_
    refine Ops.val (opV_assign rfl) rfl ?_
    refine Ops.nil ?_
    refine Ex.next ?_
    refine Cod.condF rfl ?_
    refine Cod.seq ?_
    refine Cod.region ?_
    refine Ops.val (opV_field Fx.fld_159_0 rfl) rfl ?_
    refine Ops.val (opV_load Fx.scal_9 rfl (by repeat (first | exact Cell.one rfl | assumption | apply Cell.tl))) rfl ?_
    refine Ops.val (opV_move rfl) rfl ?_
    refine Ops.val (opV_sleq rfl rfl hlt) rfl ?_
    refine Ops.val (opV_assign rfl) rfl ?_
    refine Ops.nil ?_
    refine Ex.next ?_
    refine Cod.condF rfl ?_
    refine Cod.skip ?_
    refine Ex.blockNormal ?_
    refine Ex.next ?_
    refine Cod.seq ?_
    refine Cod.region ?_
    refine Ops.val (opV_field Fx.fld_159_0 rfl) rfl ?_
    refine Ops.val (opV_load Fx.scal_9 rfl (by repeat (first | exact Cell.one rfl | assumption | apply Cell.tl))) rfl ?_
    refine Ops.val (opV_assign rfl) rfl ?_
    refine Ops.nil ?_
    refine Ex.next ?_
    refine Cod.seq ?_
    refine Cod.draw [3, 5, 7, 10] [0, 1, 2, 4, 6, 9, 12] ([(b13, .cells #[.map (some b10), .slice none 0 0, .int .i64 r, .int .i64 ((bulkF (fs.take i) : Nat) : Int)] 144)] :: [(b9, .cells #[S nm, dv] 159)] :: []) [0, 1, 2, 3, 4, 5, 6, 7, 9, 10, 8, 11, 12, 13, 14] M.mixed (by kernel_rfl) ?_
    refine AnyJ.valU rfl rfl rfl (opV_move rfl) rfl (fun _ _ _ h => h.2.elim) ?_
    refine AnyJ.valU rfl rfl rfl (opV_nil rfl) rfl (fun _ _ _ h => h.2.elim) ?_
    refine AnyJ.valU rfl rfl rfl (opV_field Fx.fld_144_0 rfl) rfl (fun _ _ _ h => h.2.elim) ?_
    refine AnyJ.val rfl rfl (opV_load Fx.scal_141 rfl (by repeat (first | exact Cell.one rfl | assumption | apply Cell.tl))) rfl (fun _ _ _ h => h.2.elim) (fun _ h => h.subs (by first | ((repeat (first | exact Sub.refl | exact Sub.nil | apply Sub.emp | (apply Sub.cons; focus ((repeat (first | exact Pick.hd | apply Pick.tl)); done)) | (apply Sub.con; focus ((repeat (first | exact Pick.hd | apply Pick.tl)); done)) | (apply Sub.app; focus ((repeat (first | exact Pick.hd | apply Pick.tl)); done)) | apply Sub.drop)); done) | ((repeat (first | rw [List.append_assoc] | rw [List.cons_append] | rw [List.nil_append] | rw [List.append_nil])); (repeat (first | exact Sub.refl | exact Sub.nil | apply Sub.emp | (apply Sub.cons; focus ((repeat (first | exact Pick.hd | apply Pick.tl)); done)) | (apply Sub.con; focus ((repeat (first | exact Pick.hd | apply Pick.tl)); done)) | (apply Sub.app; focus ((repeat (first | exact Pick.hd | apply Pick.tl)); done)) | apply Sub.drop)); done))) ?_
    refine AnyJ.valU rfl rfl rfl (opV_field Fx.fld_159_0 rfl) rfl (fun _ _ _ h => h.2.elim) ?_
    refine AnyJ.val rfl rfl (opV_load Fx.scal_9 rfl (by repeat (first | exact Cell.one rfl | assumption | apply Cell.tl))) rfl (fun _ _ _ h => h.2.elim) (fun _ h => h.subs (by first | ((repeat (first | exact Sub.refl | exact Sub.nil | apply Sub.emp | (apply Sub.cons; focus ((repeat (first | exact Pick.hd | apply Pick.tl)); done)) | (apply Sub.con; focus ((repeat (first | exact Pick.hd | apply Pick.tl)); done)) | (apply Sub.app; focus ((repeat (first | exact Pick.hd | apply Pick.tl)); done)) | apply Sub.drop)); done) | ((repeat (first | rw [List.append_assoc] | rw [List.cons_append] | rw [List.nil_append] | rw [List.append_nil])); (repeat (first | exact Sub.refl | exact Sub.nil | apply Sub.emp | (apply Sub.cons; focus ((repeat (first | exact Pick.hd | apply Pick.tl)); done)) | (apply Sub.con; focus ((repeat (first | exact Pick.hd | apply Pick.tl)); done)) | (apply Sub.app; focus ((repeat (first | exact Pick.hd | apply Pick.tl)); done)) | apply Sub.drop)); done))) ?_
    refine AnyJ.valU rfl rfl rfl (opV_field Fx.fld_159_1 rfl) rfl (fun _ _ _ h => h.2.elim) ?_
    refine AnyJ.val rfl rfl (opV_load Fx.scal_29 rfl (by repeat (first | exact Cell.one rfl | assumption | apply Cell.tl))) rfl (fun _ _ _ h => h.2.elim) (fun _ h => h.subs (by first | ((repeat (first | exact Sub.refl | exact Sub.nil | apply Sub.emp | (apply Sub.cons; focus ((repeat (first | exact Pick.hd | apply Pick.tl)); done)) | (apply Sub.con; focus ((repeat (first | exact Pick.hd | apply Pick.tl)); done)) | (apply Sub.app; focus ((repeat (first | exact Pick.hd | apply Pick.tl)); done)) | apply Sub.drop)); done) | ((repeat (first | rw [List.append_assoc] | rw [List.cons_append] | rw [List.nil_append] | rw [List.append_nil])); (repeat (first | exact Sub.refl | exact Sub.nil | apply Sub.emp | (apply Sub.cons; focus ((repeat (first | exact Pick.hd | apply Pick.tl)); done)) | (apply Sub.con; focus ((repeat (first | exact Pick.hd | apply Pick.tl)); done)) | (apply Sub.app; focus ((repeat (first | exact Pick.hd | apply Pick.tl)); done)) | apply Sub.drop)); done))) ?_
    refine AnyJ.valU rfl rfl rfl (opV_field Fx.fld_159_1 rfl) rfl (fun _ _ _ h => h.2.elim) ?_
    refine AnyJ.val rfl rfl (opV_load Fx.scal_29 rfl (by repeat (first | exact Cell.one rfl | assumption | apply Cell.tl))) rfl (fun _ _ _ h => h.2.elim) (fun _ h => h.subs (by first | ((repeat (first | exact Sub.refl | exact Sub.nil | apply Sub.emp | (apply Sub.cons; focus ((repeat (first | exact Pick.hd | apply Pick.tl)); done)) | (apply Sub.con; focus ((repeat (first | exact Pick.hd | apply Pick.tl)); done)) | (apply Sub.app; focus ((repeat (first | exact Pick.hd | apply Pick.tl)); done)) | apply Sub.drop)); done) | ((repeat (first | rw [List.append_assoc] | rw [List.cons_append] | rw [List.nil_append] | rw [List.append_nil])); (repeat (first | exact Sub.refl | exact Sub.nil | apply Sub.emp | (apply Sub.cons; focus ((repeat (first | exact Pick.hd | apply Pick.tl)); done)) | (apply Sub.con; focus ((repeat (first | exact Pick.hd | apply Pick.tl)); done)) | (apply Sub.app; focus ((repeat (first | exact Pick.hd | apply Pick.tl)); done)) | apply Sub.drop)); done))) ?_
    refine AnyJ.call rfl rfl (opC_call Fx.cal_61 rfl (fun w hw => clone_bytes hw hdv (by repeat (first | assumption | apply Has.up)) (bcells_one _) (by omega) (by omega))) rfl ?_
    rintro v40 _ ⟨A40, hA40, rfl⟩
    refine ⟨(by first | (intro _ _ h; refine h.subs ?_; (repeat (first | exact Sub.refl | exact Sub.nil | apply Sub.emp | (apply Sub.cons; focus ((repeat (first | exact Pick.hd | apply Pick.tl)); done)) | (apply Sub.con; focus ((repeat (first | exact Pick.hd | apply Pick.tl)); done)) | (apply Sub.app; focus ((repeat (first | exact Pick.hd | apply Pick.tl)); done)) | apply Sub.drop)); done) | exact lead_no (by kernel_rfl)), ?_⟩
    refine AnyJ.call rfl rfl (opC_call Fx.cal_61 rfl (fun w hw => clone_bytes hw hdv (by repeat (first | assumption | apply Has.up)) (bcells_one _) (by omega) (by omega))) rfl ?_
    rintro v43 _ ⟨A43, hA43, rfl⟩
    refine ⟨(by first | (intro _ _ h; refine h.subs ?_; (repeat (first | exact Sub.refl | exact Sub.nil | apply Sub.emp | (apply Sub.cons; focus ((repeat (first | exact Pick.hd | apply Pick.tl)); done)) | (apply Sub.con; focus ((repeat (first | exact Pick.hd | apply Pick.tl)); done)) | (apply Sub.app; focus ((repeat (first | exact Pick.hd | apply Pick.tl)); done)) | apply Sub.drop)); done) | exact lead_no (by kernel_rfl)), ?_⟩
    obtain ⟨a40, c40, rfl⟩ := hA40.isSlice
    obtain ⟨a43, c43, rfl⟩ := hA43.isSlice
    refine AnyJ.valU rfl rfl rfl (opV_build Fx.st_163 rfl (by first | (simp [fillL, vcells, putAt]; rfl) | (simp [fillL, vcells, putAt]; done) | rfl)) rfl (fun _ _ _ h => h.2.elim) ?_
    refine AnyJ.eff rfl rfl (opE_box rfl) rfl ?_
    rintro _ _ ⟨b45, rfl, rfl⟩
    refine ⟨(by first | (intro _ _ h; refine h.subs ?_; (repeat (first | exact Sub.refl | exact Sub.nil | apply Sub.emp | (apply Sub.cons; focus ((repeat (first | exact Pick.hd | apply Pick.tl)); done)) | (apply Sub.con; focus ((repeat (first | exact Pick.hd | apply Pick.tl)); done)) | (apply Sub.app; focus ((repeat (first | exact Pick.hd | apply Pick.tl)); done)) | apply Sub.drop)); done) | exact lead_no (by kernel_rfl)), ?_⟩
    refine AnyJ.stE rfl rfl (opS_mapUpdate (κ := Str) Fx.map_141 rfl rfl rfl (by repeat (first | exact Pick.hd | apply Pick.tl)) hM ) ?_
    rintro _ ⟨ob', hM', rfl⟩
    refine ⟨(by first | (intro _ _ h; refine h.subs ?_; (repeat (first | exact Sub.refl | exact Sub.nil | apply Sub.emp | (apply Sub.cons; focus ((repeat (first | exact Pick.hd | apply Pick.tl)); done)) | (apply Sub.con; focus ((repeat (first | exact Pick.hd | apply Pick.tl)); done)) | (apply Sub.app; focus ((repeat (first | exact Pick.hd | apply Pick.tl)); done)) | apply Sub.drop)); done) | exact lead_no (by kernel_rfl)), ?_⟩
    refine AnyJ.nil ?_
    refine Ex.next ?_
    refine Cod.draw [3, 5] [0, 1, 2, 4, 6, 7, 8, 9] ([(b13, .cells #[.map (some b10), .slice none 0 0, .int .i64 r, .int .i64 ((bulkF (fs.take i) : Nat) : Int)] 144)] :: [(b9, .cells #[S nm, dv] 159)] :: []) [0, 1, 2, 3, 4, 5, 6, 7, 8, 9, 10] M.mixed (by kernel_rfl) ?_
    refine AnyJ.valU rfl rfl rfl (opV_move rfl) rfl (fun _ _ _ h => h.2.elim) ?_
    refine AnyJ.valU rfl rfl rfl (opV_nil rfl) rfl (fun _ _ _ h => h.2.elim) ?_
    refine AnyJ.valU rfl rfl rfl (opV_field Fx.fld_144_3 rfl) rfl (fun _ _ _ h => h.2.elim) ?_
    refine AnyJ.val rfl rfl (opV_load Fx.scal_3 rfl (by repeat (first | exact Cell.one rfl | assumption | apply Cell.tl))) rfl (fun _ _ _ h => h.2.elim) (fun _ h => h.subs (by first | ((repeat (first | exact Sub.refl | exact Sub.nil | apply Sub.emp | (apply Sub.cons; focus ((repeat (first | exact Pick.hd | apply Pick.tl)); done)) | (apply Sub.con; focus ((repeat (first | exact Pick.hd | apply Pick.tl)); done)) | (apply Sub.app; focus ((repeat (first | exact Pick.hd | apply Pick.tl)); done)) | apply Sub.drop)); done) | ((repeat (first | rw [List.append_assoc] | rw [List.cons_append] | rw [List.nil_append] | rw [List.append_nil])); (repeat (first | exact Sub.refl | exact Sub.nil | apply Sub.emp | (apply Sub.cons; focus ((repeat (first | exact Pick.hd | apply Pick.tl)); done)) | (apply Sub.con; focus ((repeat (first | exact Pick.hd | apply Pick.tl)); done)) | (apply Sub.app; focus ((repeat (first | exact Pick.hd | apply Pick.tl)); done)) | apply Sub.drop)); done))) ?_
    refine AnyJ.valU rfl rfl rfl (opV_field Fx.fld_159_1 rfl) rfl (fun _ _ _ h => h.2.elim) ?_
    refine AnyJ.val rfl rfl (opV_load Fx.scal_29 rfl (by repeat (first | exact Cell.one rfl | assumption | apply Cell.tl))) rfl (fun _ _ _ h => h.2.elim) (fun _ h => h.subs (by first | ((repeat (first | exact Sub.refl | exact Sub.nil | apply Sub.emp | (apply Sub.cons; focus ((repeat (first | exact Pick.hd | apply Pick.tl)); done)) | (apply Sub.con; focus ((repeat (first | exact Pick.hd | apply Pick.tl)); done)) | (apply Sub.app; focus ((repeat (first | exact Pick.hd | apply Pick.tl)); done)) | apply Sub.drop)); done) | ((repeat (first | rw [List.append_assoc] | rw [List.cons_append] | rw [List.nil_append] | rw [List.append_nil])); (repeat (first | exact Sub.refl | exact Sub.nil | apply Sub.emp | (apply Sub.cons; focus ((repeat (first | exact Pick.hd | apply Pick.tl)); done)) | (apply Sub.con; focus ((repeat (first | exact Pick.hd | apply Pick.tl)); done)) | (apply Sub.app; focus ((repeat (first | exact Pick.hd | apply Pick.tl)); done)) | apply Sub.drop)); done))) ?_
    refine AnyJ.valU rfl rfl rfl (opV_len Fx.sl_29 rfl hdv.isSlice) rfl (fun _ _ _ h => h.2.elim) ?_
    refine AnyJ.valU rfl rfl rfl (opV_add64 rfl rfl (by omega)) rfl (fun _ _ _ h => h.2.elim) ?_
    rw [show ((bulkF (fs.take i) : Nat) : Int) + (d.length : Int) = ((bulkF (fs.take (i + 1)) : Nat) : Int) by omega]
    have hadd := MapH.add hFi hkn (P := FileP) (v := .pointer (some ⟨b45, 0, none⟩)) (a := (d, d)) (B := (b45, .cells #[.slice a40 d.length c40, .slice a43 d.length c43] 163) :: (A40 ++ A43)) ⟨b45, _, _, A40, A43, rfl, hA40, hA43, rfl⟩
    have hnx : ins nm (d, d) ((fs.take i).map dd) = (fs.take (i + 1)).map dd := by rw [keys_ins_new hfr, List.take_add_one, hx]; simp [dd]
    rw [hnx] at hadd
    refine AnyJ.valU rfl rfl rfl (opV_nil rfl) rfl (fun _ _ _ h => h.2.elim) ?_
    refine AnyJ.valU rfl rfl rfl (opV_field Fx.fld_144_3 rfl) rfl (fun _ _ _ h => h.2.elim) ?_
    refine AnyJ.st rfl rfl (opS_store Fx.scal_3 Fx.sz1_3 rfl rfl (by first | rfl | assumption | exact Row.one (by assumption) | exact Sl.one (by assumption)) rfl (by repeat (first | exact Upd.hd | apply Upd.tl)) (by repeat (first | exact LSet.hd | apply LSet.tl))) (by first | (intro _ _ h; refine h.subs ?_; (repeat (first | exact Sub.refl | exact Sub.nil | apply Sub.emp | (apply Sub.cons; focus ((repeat (first | exact Pick.hd | apply Pick.tl)); done)) | (apply Sub.con; focus ((repeat (first | exact Pick.hd | apply Pick.tl)); done)) | (apply Sub.app; focus ((repeat (first | exact Pick.hd | apply Pick.tl)); done)) | apply Sub.drop)); done) | exact lead_no (by kernel_rfl)) ?_
    refine AnyJ.nil ?_
    refine Ex.blockNormal ?_
    refine Ex.next ?_
    refine Cod.region ?_
    refine Ops.val (opV_add64 rfl rfl (by omega)) rfl ?_
    refine Ops.val (opV_move rfl) rfl ?_
    refine Ops.nil ?_
    refine Ex.toN (fun _ _ hs => ⟨(i + 1, nm, ob', ins nm (.pointer (some ⟨b45, 0, none⟩)) kvs, (b45, .cells #[.slice a40 d.length c40, .slice a43 d.length c43] 163) :: (A40 ++ A43) ++ FA), ⟨by dsimp only; omega, by simp [lastN, hx], hM', hadd⟩, (by first | omega | (dsimp only; omega) | (simp; omega) | (simp; done)), hs⟩) (by repeat (first | exact trivial | refine ⟨rfl, ?_⟩)) (fun _ h => h.subs (by first | ((repeat (first | exact Sub.refl | exact Sub.nil | apply Sub.emp | (apply Sub.cons; focus ((repeat (first | exact Pick.hd | apply Pick.tl)); done)) | (apply Sub.con; focus ((repeat (first | exact Pick.hd | apply Pick.tl)); done)) | (apply Sub.app; focus ((repeat (first | exact Pick.hd | apply Pick.tl)); done)) | apply Sub.drop)); done) | ((repeat (first | rw [List.append_assoc] | rw [List.cons_append] | rw [List.nil_append] | rw [List.append_nil])); (repeat (first | exact Sub.refl | exact Sub.nil | apply Sub.emp | (apply Sub.cons; focus ((repeat (first | exact Pick.hd | apply Pick.tl)); done)) | (apply Sub.con; focus ((repeat (first | exact Pick.hd | apply Pick.tl)); done)) | (apply Sub.app; focus ((repeat (first | exact Pick.hd | apply Pick.tl)); done)) | apply Sub.drop)); done)))
  · try simp at hc
    obtain rfl : i = fs.length := by omega
    rw [List.take_length] at hFi
    rw [List.take_length]
    have hus : ((openD fs r).used : Nat) = bulkF fs := usedF_dd fs
    rw [← hus]
    refine Cod.exit ?_
    refine Ex.thenExit ?_
    refine Ex.thenExit ?_
    refine Ex.blockHit ?_
    refine Ex.next ?_
    refine Cod.seq ?_
    refine Cod.region ?_
    refine Ops.val (opV_move rfl) rfl ?_
    refine Ops.val (opV_assign rfl) rfl ?_
    refine Ops.val (opV_assign rfl) rfl ?_
    refine Ops.nil ?_
    refine Ex.next ?_
    refine Cod.ret ?_
    exact Ex.ret2 rfl rfl rfl (fun _ h => h.subs (by first | ((repeat (first | exact Sub.refl | exact Sub.nil | apply Sub.emp | (apply Sub.cons; focus ((repeat (first | exact Pick.hd | apply Pick.tl)); done)) | (apply Sub.con; focus ((repeat (first | exact Pick.hd | apply Pick.tl)); done)) | (apply Sub.app; focus ((repeat (first | exact Pick.hd | apply Pick.tl)); done)) | apply Sub.drop)); done) | ((repeat (first | rw [List.append_assoc] | rw [List.cons_append] | rw [List.nil_append] | rw [List.append_nil])); (repeat (first | exact Sub.refl | exact Sub.nil | apply Sub.emp | (apply Sub.cons; focus ((repeat (first | exact Pick.hd | apply Pick.tl)); done)) | (apply Sub.con; focus ((repeat (first | exact Pick.hd | apply Pick.tl)); done)) | (apply Sub.app; focus ((repeat (first | exact Pick.hd | apply Pick.tl)); done)) | apply Sub.drop)); done))) ⟨b13, _, rfl, ⟨b10, ob, .slice none 0 0, [], FA, [], [], kvs, hM, hFi, Row.nil _ _, .nil, rfl⟩, rfl⟩
end
end Go.Proofs.YteejmoldhbfdnaaGreatDoor.Crash
