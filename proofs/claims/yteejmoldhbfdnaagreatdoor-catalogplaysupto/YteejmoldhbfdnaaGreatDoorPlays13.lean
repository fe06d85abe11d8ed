/- warrenlaw13.CatalogPlays, walked. -/
import Derived.Test.YteejmoldhbfdnaaGreatDoorSpeak13
import Derived.Test.YteejmoldhbfdnaaGreatDoorRefC13
set_option maxRecDepth 8000
namespace Go.Proofs.YteejmoldhbfdnaaGreatDoor.Plays13
open Go.W Go.RowKit Lib1 Oct OctR Seal Disk Disk2 Wal Num Wal2 Wal3 CatL Cat Cat2 Cat3 Cat4 LogL CInv Law13 RefL Ref13 RefC13
namespace Fx
theorem agg_42 : aggSz Tryz.prog 42 = some 2 := by kernel_rfl
theorem agg_51 : aggSz Tryz.prog 51 = some 3 := by kernel_rfl
theorem agg_63 : aggSz Tryz.prog 63 = some 5 := by kernel_rfl
theorem agg_74 : aggSz Tryz.prog 74 = some 2 := by kernel_rfl
theorem cal_14 : callable Tryz.prog 14 = true := by kernel_rfl
theorem cal_16 : callable Tryz.prog 16 = true := by kernel_rfl
theorem cal_17 : callable Tryz.prog 17 = true := by kernel_rfl
theorem cal_18 : callable Tryz.prog 18 = true := by kernel_rfl
theorem cal_19 : callable Tryz.prog 19 = true := by kernel_rfl
theorem cal_20 : callable Tryz.prog 20 = true := by kernel_rfl
theorem cal_21 : callable Tryz.prog 21 = true := by kernel_rfl
theorem cal_22 : callable Tryz.prog 22 = true := by kernel_rfl
theorem cal_23 : callable Tryz.prog 23 = true := by kernel_rfl
theorem cal_24 : callable Tryz.prog 24 = true := by kernel_rfl
theorem cal_25 : callable Tryz.prog 25 = true := by kernel_rfl
theorem cal_26 : callable Tryz.prog 26 = true := by kernel_rfl
theorem cal_27 : callable Tryz.prog 27 = true := by kernel_rfl
theorem cal_28 : callable Tryz.prog 28 = true := by kernel_rfl
theorem cal_29 : callable Tryz.prog 29 = true := by kernel_rfl
theorem cal_30 : callable Tryz.prog 30 = true := by kernel_rfl
theorem cal_31 : callable Tryz.prog 31 = true := by kernel_rfl
theorem flat_51 : flatSt Tryz.prog 51 = some [.s, .s, .b] := by kernel_rfl
theorem fld_63_0 : fieldOff Tryz.prog 63 0 = some 0 := by kernel_rfl
theorem fld_63_1 : fieldOff Tryz.prog 63 1 = some 1 := by kernel_rfl
theorem fld_63_2 : fieldOff Tryz.prog 63 2 = some 2 := by kernel_rfl
theorem fld_63_3 : fieldOff Tryz.prog 63 3 = some 3 := by kernel_rfl
theorem ni_39 : notInt Tryz.prog 39 = true := by kernel_rfl
theorem ptr_24 : ptrT Tryz.prog 24 = true := by kernel_rfl
theorem ptr_43 : ptrT Tryz.prog 43 = true := by kernel_rfl
theorem scal_3 : scalarB Tryz.prog 3 = true := by kernel_rfl
theorem scal_39 : scalarB Tryz.prog 39 = true := by kernel_rfl
theorem scal_9 : scalarB Tryz.prog 9 = true := by kernel_rfl
theorem sl_39 : slInfo Tryz.prog 39 = some (51, 3, 40, some (.agg #[(S []), (S []), (.bool false)])) := by kernel_rfl
theorem sl_47 : slInfo Tryz.prog 47 = some (74, 2, 32, some (.agg #[(S []), (S [])])) := by kernel_rfl
theorem sl_61 : slInfo Tryz.prog 61 = some (63, 5, 80, some (.agg #[(.int .i64 0), (.slice none 0 0), (S []), (.slice none 0 0), (.int .i64 0)])) := by kernel_rfl
theorem sl_67 : slInfo Tryz.prog 67 = some (9, 1, 16, some (S [])) := by kernel_rfl
theorem st_51 : stInfo Tryz.prog 51 = some (#[(S []), (S []), (.bool false)], #[(0, 1), (1, 1), (2, 1)]) := by kernel_rfl
theorem st_74 : stInfo Tryz.prog 74 = some (#[(S []), (S [])], #[(0, 1), (1, 1)]) := by kernel_rfl
theorem sz1_9 : (Tryz.prog.info? 9).map (·.size) = some 1 := by kernel_rfl
theorem und_4 : Tryz.prog.underlying 4 = some .bool := by kernel_rfl
theorem zero_63 : (Tryz.prog.info? 63).bind (·.zero) = some (.agg #[(.int .i64 0), (.slice none 0 0), (S []), (.slice none 0 0), (.int .i64 0)]) := by kernel_rfl

end Fx
structure Op where
  kind : Int
  cv : Value
  cl : List Ch
  text : Str
  kv : Value
  keep : List Bool
  tear : Int
def Op.cells (o : Op) : List Value := [.int .i64 o.kind, o.cv, S o.text, o.kv, .int .i64 o.tear]
def Op.wt (o : Op) : Nat := (o.cl.map chW).sum + o.text.length + o.keep.length + 1
def Op.ok (base : Hp) (o : Op) : Prop := Sl base 3 o.cv o.cl.length (chs o.cl) ∧ Sl base 1 o.kv o.keep.length (o.keep.map Value.bool)
abbrev opsC (os : List Op) : List Value := (os.map Op.cells).flatten
theorem ops_get {os : List Op} {i : Nat} {o : Op} (h : os[i]? = some o) : ((opsC os).drop (i * 5)).take 5 = [.int .i64 o.kind, o.cv, S o.text, o.kv, .int .i64 o.tear] :=
  flatten_elem (k := 5) (fun c hc => by obtain ⟨o, _, rfl⟩ := List.mem_map.1 hc; rfl) (by rw [List.getElem?_map, h]; rfl)
def Uw (os : List Op) (i : Nat) : Nat := ((os.take i).map Op.wt).sum
theorem Uw_succ {os : List Op} {i : Nat} {o : Op} (h : os[i]? = some o) : Uw os (i + 1) = Uw os i + o.wt := by
  unfold Uw; rw [List.take_add_one, h]; simp
theorem sum_take_le (l : List Nat) (i : Nat) : (l.take i).sum ≤ l.sum := by
  conv => rhs; rw [← List.take_append_drop i l]
  rw [List.sum_append]; omega
theorem Uw_le (os : List Op) (i : Nat) : Uw os i ≤ (os.map Op.wt).sum := by unfold Uw; rw [List.map_take]; exact sum_take_le _ _
theorem len_wt (os : List Op) : os.length ≤ (os.map Op.wt).sum := by
  induction os with
  | nil => simp
  | cons o os ih => simp [Op.wt] at ih ⊢; omega
theorem pairs_nil : pairsOf [] = [] := by simp [pairsOf, sk]
section
variable {e : Ctx} {w : World} {As : List Hp} {A B : Hp} {v u : Value} {os : List Op} {ps qs : List Pr} {xs ys : List Str}
theorem pairs_true (h : ps = qs) (hw : Owns e w As) (hA : Has e As A) (hB : Has e As B) {m n : Nat} (hm : m = ps.length) (hn : n = qs.length) (hl : ps.length ≤ 1000000000) (hv : Sl A 2 v m (prs ps)) (hu : Sl B 2 u n (prs qs)) :
    Calls Tryz.prog 20 #[v, u] w (Ret e fun u Bs => u = .bool true ∧ Bs = As) := by
  have := samePairs hw hA hB hm hn hl hv hu
  rwa [decide_eq_true h] at this
theorem texts_true (h : xs = ys) (hw : Owns e w As) (hA : Has e As A) (hB : Has e As B) {m n : Nat} (hm : m = xs.length) (hn : n = ys.length) (hl : xs.length ≤ 1000000000) (hv : Sl A 1 v m (xs.map S)) (hu : Sl B 1 u n (ys.map S)) :
    Calls Tryz.prog 28 #[v, u] w (Ret e fun u Bs => u = .bool true ∧ Bs = As) := by
  have := sameTexts hw hA hB hm hn hl hv hu
  rwa [decide_eq_true h] at this
/-- What a round's switch leaves. -/
structure Rnd where
  es : List Pr
  hist : List (List Ch)
  g : Nat
  size : Nat
  D : DK
  d : Nat
  c : Nat
  lb : Nat
  u5 : Value
  L : Hp
  A : Hp
  DA : Hp
def Rnd.inv (r : Rnd) (U K : Nat) : Prop :=
  CI U K r.es r.hist r.g r.size r.D ∧ CatM r.c (.pointer (some ⟨r.lb, 0, none⟩)) r.es r.A ∧ DiskA r.d r.D r.DA ∧ Sl r.L 2 r.u5 (pairsOf r.es).length (prs (pairsOf r.es))
theorem plays (hG : Glob e) (hE : Kit.HasErr e) (h1 : (os.map Op.wt).sum ≤ 500000000) (h2 : os.length ≤ 10000000) (hok : ∀ o ∈ os, Op.ok e.base o) (hv : Sl e.base 5 v os.length (opsC os)) (hw : Owns e w As) :
    Calls Tryz.prog 5 #[v] w (Ret e fun u _ => u = .bool true) := by
  refine enter Tryz.func5 rfl Tryz.ntmps5 hw rfl ?_
  refine Cod.seq ?_
  refine Cod.region ?_
  refine Ops.val (opV_assign rfl) rfl ?_
  refine Ops.nil ?_
  refine Ex.next ?_
  refine Cod.seq ?_
  refine Cod.seq ?_
  refine Cod.region ?_
  refine Ops.call rfl (opC_call Fx.cal_16 rfl (fun w hw => Speak13.speaks hG hE hw)) rfl ?_
  rintro v25 _ ⟨rfl, hAs⟩
  obtain rfl := hAs.symm
  refine Ops.val (opV_not rfl) rfl ?_
  refine Ops.nil ?_
  refine Ex.next ?_
  refine Cod.condF rfl ?_
  refine Cod.skip ?_
  refine Ex.next ?_
  refine Cod.seq ?_
  refine Cod.region ?_
  refine Ops.call rfl (opC_call Fx.cal_17 rfl (fun w hw => opened hG hE hw)) rfl ?_
  rintro v28 _ ⟨d0, c0, lb0, A0, DA0, rfl, hA0, hDA0, rfl⟩
  refine Ops.val (opV_move rfl) rfl ?_
  refine Ops.val (opV_extract rfl rfl) rfl ?_
  refine Ops.val (opV_extract rfl rfl) rfl ?_
  refine Ops.val (opV_assign rfl) rfl ?_
  refine Ops.val (opV_assign rfl) rfl ?_
  refine Ops.nil ?_
  refine Ex.next ?_
  refine Cod.seq ?_
  refine Cod.seq ?_
  refine Cod.region ?_
  refine Ops.val (opV_move rfl) rfl ?_
  refine Ops.val (opV_ptrnil Fx.ptr_43 rfl rfl rfl) rfl ?_
  refine Ops.nil ?_
  refine Ex.next ?_
  refine Cod.condF rfl ?_
  refine Cod.skip ?_
  refine Ex.next ?_
  refine Cod.seq ?_
  refine Cod.region ?_
  refine Ops.eff rfl (opE_buildSlice0 Fx.sl_47) rfl ?_
  rintro _ _ ⟨b33, rfl, rfl⟩
  refine Ops.val (opV_assign rfl) rfl ?_
  refine Ops.nil ?_
  refine Ex.next ?_
  refine Cod.seq ?_
  refine Cod.seq ?_
  refine Cod.region ?_
  refine Ops.val (opV_move rfl) rfl ?_
  refine Ops.val (opV_len Fx.sl_61 rfl hv.isSlice) rfl ?_
  refine Ops.val (opV_move rfl) rfl ?_
  refine Ops.nil ?_
  refine Ex.next ?_
  refine Cod.block ?_
  refine Cod.loop (X := Nat × Rnd) (fun (i, r) => [(3, .pointer (some ⟨r.d, 0, none⟩)), (4, .pointer (some ⟨r.c, 0, none⟩)), (5, r.u5), (34, v), (35, .int .i64 os.length), (36, .int .i64 (i : Int))]) (fun (i, r) => r.A :: r.DA :: logB r.lb r.d catB r.g r.size :: r.L :: As) (fun (i, r) => i ≤ os.length ∧ r.inv (Uw os i) (i + 1)) (fun (i, r) => os.length - i) ((0, ⟨[], [[]], 1, 8, D1, d0, c0, lb0, _, [(b33, .cells #[] 74)], A0, DA0⟩)) (⟨Nat.zero_le _, CI.start, hA0, hDA0, by rw [pairs_nil]; exact (Row.made (n := 0) rfl (by simp [maxLen])).sl⟩) (by repeat (first | exact trivial | refine ⟨rfl, ?_⟩)) (fun _ h => h.subs (by first | ((repeat (first | exact Sub.refl | exact Sub.nil | apply Sub.emp | (apply Sub.cons; focus ((repeat (first | exact Pick.hd | apply Pick.tl)); done)) | (apply Sub.con; focus ((repeat (first | exact Pick.hd | apply Pick.tl)); done)) | (apply Sub.app; focus ((repeat (first | exact Pick.hd | apply Pick.tl)); done)) | apply Sub.drop)); done) | ((repeat (first | rw [List.append_assoc] | rw [List.cons_append] | rw [List.nil_append] | rw [List.append_nil])); (repeat (first | exact Sub.refl | exact Sub.nil | apply Sub.emp | (apply Sub.cons; focus ((repeat (first | exact Pick.hd | apply Pick.tl)); done)) | (apply Sub.con; focus ((repeat (first | exact Pick.hd | apply Pick.tl)); done)) | (apply Sub.app; focus ((repeat (first | exact Pick.hd | apply Pick.tl)); done)) | apply Sub.drop)); done))) ?_
  rintro ⟨i, ⟨es, hist, g, size, D, d, c, lb, u5, L, A, DA⟩⟩ ⟨hi, hCI, hA, hDA, hL⟩
  try dsimp only
  dsimp only at hCI hA hDA hL
  have hel := hCI.el
  have hsb := hCI.sb
  have hpl := pairs_len es
  refine Cod.seq ?_
  refine Cod.region ?_
  refine Ops.val (opV_lss rfl rfl (by first | exact decide_eq_true (by omega) | exact decide_eq_false (by omega) | rfl)) rfl ?_
  refine Ops.nil ?_
  refine Ex.next ?_
  refine Cod.seq ?_
  refine Cod.cond rfl (fun hc => ?_) (fun hc => ?_)
  · try simp at hc
    obtain ⟨o, ho⟩ : ∃ o, os[i]? = some o := ⟨_, List.getElem?_eq_getElem (by omega)⟩
    obtain ⟨hcv, hkv⟩ := hok o (List.mem_of_getElem? ho)
    have hUs := Uw_succ ho
    have hUl := Uw_le os (i + 1)
    have hwt : o.wt = (o.cl.map chW).sum + o.text.length + o.keep.length + 1 := rfl
    have hn9 := len_chW o.cl
    refine Cod.skip ?_
    refine Ex.next ?_
    refine Cod.seq ?_
    refine Cod.block ?_
    refine Cod.seq ?_
    refine Cod.region ?_
    refine Ops.val (opV_indexAddr Fx.sl_61 rfl hv (k := i) rfl (by omega)) rfl ?_
    refine Ops.val (opV_loadEA Fx.agg_63 rfl hv .base (ops_get ho) rfl (by decide)) rfl ?_
    refine Ops.eff rfl (opE_alloc Fx.zero_63) rfl ?_
    rintro _ _ ⟨b7, rfl, rfl⟩
    refine Ops.st rfl (opS_storeA Fx.agg_63 rfl rfl rfl (by (try simp only [putAt]); simp only [List.mem_cons, List.not_mem_nil, or_false]; (try simp only [forall_eq_or_imp]); (try simp only [forall_eq]); (repeat' apply And.intro) <;> first | rfl | assumption | exact Row.one (by assumption) | exact Sl.one (by assumption)) rfl (by repeat (first | exact Upd.hd | apply Upd.tl)) rfl) ?_
    refine Ops.nil ?_
    refine Ex.next ?_
    refine Cod.seqCut (X := Rnd) (fun r => [(3, .pointer (some ⟨r.d, 0, none⟩)), (4, .pointer (some ⟨r.c, 0, none⟩)), (5, r.u5), (34, v), (35, .int .i64 os.length), (36, .int .i64 (i : Int))]) (fun r => r.A :: r.DA :: logB r.lb r.d catB r.g r.size :: r.L :: As) (fun r => r.inv (Uw os (i + 1)) (i + 2)) ?_ ?_
    · skip
      refine Cod.seq ?_
      refine Cod.region ?_
      refine Ops.val (opV_field Fx.fld_63_0 rfl) rfl ?_
      refine Ops.val (opV_load Fx.scal_3 rfl (by repeat (first | exact Cell.one rfl | assumption | apply Cell.tl))) rfl ?_
      refine Ops.val (opV_and' rfl rfl) rfl ?_
      generalize bitop .and .i64 o.kind 7 = kz
      refine Ops.nil ?_
      refine Ex.next ?_
      refine Cod.block ?_
      refine Cod.seqCut (X := Bool) (fun b => [(3, .pointer (some ⟨d, 0, none⟩)), (4, .pointer (some ⟨c, 0, none⟩)), (5, u5), (34, v), (35, .int .i64 os.length), (36, .int .i64 (i : Int)), (7, .pointer (some ⟨b7, 0, none⟩)), (42, .int .i64 kz), (66, .bool b)]) (fun b => [(b7, .cells #[.int .i64 o.kind, o.cv, S o.text, o.kv, .int .i64 o.tear] 63)] :: A :: DA :: logB lb d catB g size :: L :: As) (fun _ => True) ?_ ?_
      · skip
        refine Cod.seq ?_
        refine Cod.region ?_
        refine Ops.val (opV_eql rfl rfl rfl) rfl ?_
        refine Ops.val (opV_assign rfl) rfl ?_
        refine Ops.nil ?_
        refine Ex.next ?_
        refine Cod.cond rfl (fun hk0 => ?_) (fun hk0 => ?_)
        · try simp at hk0
          refine Cod.skip ?_
          refine Ex.toN (fun _ _ hs => ⟨decide (kz = 0), trivial, hs⟩) (by repeat (first | exact trivial | refine ⟨rfl, ?_⟩)) (fun _ h => h.subs (by first | ((repeat (first | exact Sub.refl | exact Sub.nil | apply Sub.emp | (apply Sub.cons; focus ((repeat (first | exact Pick.hd | apply Pick.tl)); done)) | (apply Sub.con; focus ((repeat (first | exact Pick.hd | apply Pick.tl)); done)) | (apply Sub.app; focus ((repeat (first | exact Pick.hd | apply Pick.tl)); done)) | apply Sub.drop)); done) | ((repeat (first | rw [List.append_assoc] | rw [List.cons_append] | rw [List.nil_append] | rw [List.append_nil])); (repeat (first | exact Sub.refl | exact Sub.nil | apply Sub.emp | (apply Sub.cons; focus ((repeat (first | exact Pick.hd | apply Pick.tl)); done)) | (apply Sub.con; focus ((repeat (first | exact Pick.hd | apply Pick.tl)); done)) | (apply Sub.app; focus ((repeat (first | exact Pick.hd | apply Pick.tl)); done)) | apply Sub.drop)); done)))
        · try simp at hk0
          refine Cod.seq ?_
          refine Cod.region ?_
          refine Ops.val (opV_eql rfl rfl rfl) rfl ?_
          refine Ops.val (opV_assign rfl) rfl ?_
          refine Ops.nil ?_
          refine Ex.next ?_
          refine Cod.cond rfl (fun hk1 => ?_) (fun hk1 => ?_)
          · try simp at hk1
            refine Cod.skip ?_
            refine Ex.toN (fun _ _ hs => ⟨decide (kz = 1), trivial, hs⟩) (by repeat (first | exact trivial | refine ⟨rfl, ?_⟩)) (fun _ h => h.subs (by first | ((repeat (first | exact Sub.refl | exact Sub.nil | apply Sub.emp | (apply Sub.cons; focus ((repeat (first | exact Pick.hd | apply Pick.tl)); done)) | (apply Sub.con; focus ((repeat (first | exact Pick.hd | apply Pick.tl)); done)) | (apply Sub.app; focus ((repeat (first | exact Pick.hd | apply Pick.tl)); done)) | apply Sub.drop)); done) | ((repeat (first | rw [List.append_assoc] | rw [List.cons_append] | rw [List.nil_append] | rw [List.append_nil])); (repeat (first | exact Sub.refl | exact Sub.nil | apply Sub.emp | (apply Sub.cons; focus ((repeat (first | exact Pick.hd | apply Pick.tl)); done)) | (apply Sub.con; focus ((repeat (first | exact Pick.hd | apply Pick.tl)); done)) | (apply Sub.app; focus ((repeat (first | exact Pick.hd | apply Pick.tl)); done)) | apply Sub.drop)); done)))
          · try simp at hk1
            refine Cod.region ?_
            refine Ops.val (opV_eql rfl rfl rfl) rfl ?_
            refine Ops.val (opV_assign rfl) rfl ?_
            refine Ops.nil ?_
            refine Ex.toN (fun _ _ hs => ⟨decide (kz = 2), trivial, hs⟩) (by repeat (first | exact trivial | refine ⟨rfl, ?_⟩)) (fun _ h => h.subs (by first | ((repeat (first | exact Sub.refl | exact Sub.nil | apply Sub.emp | (apply Sub.cons; focus ((repeat (first | exact Pick.hd | apply Pick.tl)); done)) | (apply Sub.con; focus ((repeat (first | exact Pick.hd | apply Pick.tl)); done)) | (apply Sub.app; focus ((repeat (first | exact Pick.hd | apply Pick.tl)); done)) | apply Sub.drop)); done) | ((repeat (first | rw [List.append_assoc] | rw [List.cons_append] | rw [List.nil_append] | rw [List.append_nil])); (repeat (first | exact Sub.refl | exact Sub.nil | apply Sub.emp | (apply Sub.cons; focus ((repeat (first | exact Pick.hd | apply Pick.tl)); done)) | (apply Sub.con; focus ((repeat (first | exact Pick.hd | apply Pick.tl)); done)) | (apply Sub.app; focus ((repeat (first | exact Pick.hd | apply Pick.tl)); done)) | apply Sub.drop)); done)))
      · rintro b _
        try dsimp only
        refine Cod.cond rfl (fun hb => ?_) (fun hb => ?_)
        · try simp at hb
          refine Cod.seq ?_
          refine Cod.region ?_
          refine Ops.eff rfl (opE_buildSlice0 Fx.sl_39) rfl ?_
          rintro _ _ ⟨b70, rfl, rfl⟩
          refine Ops.val (opV_field Fx.fld_63_1 rfl) rfl ?_
          refine Ops.val (opV_load Fx.scal_39 rfl (by repeat (first | exact Cell.one rfl | assumption | apply Cell.tl))) rfl ?_
          refine Ops.eff rfl (opE_append Fx.sl_39 rfl Fx.ni_39 rfl rfl (by repeat (first | exact Pick.hd | apply Pick.tl)) (Row.made (n := 0) rfl (by simp [maxLen])) (hcv.src .base (chs_one _)) (by omega) (by simp only [maxLen]; omega)) rfl ?_
          rintro v73 _ ⟨A73, hA73, rfl⟩
          simp only [List.nil_append, Nat.zero_add] at hA73
          refine Ops.val (opV_assign rfl) rfl ?_
          refine Ops.nil ?_
          refine Ex.next ?_
          refine Cod.seq ?_
          refine Cod.region ?_
          refine Ops.val (opV_move rfl) rfl ?_
          refine Ops.val (opV_move rfl) rfl ?_
          refine Ops.call rfl (opC_call Fx.cal_18 rfl (fun w hw => commitCI (cs := o.cl) (m := o.cl.length) rfl hG hCI (by omega) (by omega) hw (A := A) (by repeat (first | exact Pick.hd | apply Pick.tl)) (DA := DA) (by repeat (first | exact Pick.hd | apply Pick.tl)) (by repeat (first | exact Pick.hd | apply Pick.tl)) hA hDA (VA := A73) (.mem (by repeat (first | exact List.Mem.head _ | apply List.Mem.tail))) hA73.sl)) rfl ?_
          rintro v76 _ ⟨rfl, hist2, size2, D2, A2, DA2, hCI2, hA2, hDA2, rfl⟩
          refine Ops.val (opV_assign rfl) rfl ?_
          refine Ops.nil ?_
          refine Ex.next ?_
          refine Cod.seq ?_
          refine Cod.region ?_
          refine Ops.val (opV_move rfl) rfl ?_
          refine Ops.val (opV_field Fx.fld_63_1 rfl) rfl ?_
          refine Ops.val (opV_load Fx.scal_39 rfl (by repeat (first | exact Cell.one rfl | assumption | apply Cell.tl))) rfl ?_
          refine Ops.call rfl (opC_call Fx.cal_25 rfl (fun w hw => commit_r (es := es) (cs := o.cl) (L := L) rfl rfl hCI.nd hel hsb (by omega) hw (by repeat (first | exact Pick.hd | apply Pick.tl)) hL .base hcv)) rfl ?_
          rintro v81 _ ⟨u10, L2, rfl, hL2, rfl⟩
          refine Ops.val (opV_move rfl) rfl ?_
          refine Ops.val (opV_extract rfl rfl) rfl ?_
          refine Ops.val (opV_extract rfl rfl) rfl ?_
          refine Ops.val (opV_assign rfl) rfl ?_
          refine Ops.val (opV_assign rfl) rfl ?_
          refine Ops.nil ?_
          refine Ex.next ?_
          refine Cod.seq ?_
          refine Cod.seq ?_
          refine Cod.region ?_
          refine Ops.val (opV_move rfl) rfl ?_
          refine Ops.val (opV_move rfl) rfl ?_
          refine Ops.val (opV_neq rfl rfl (decide_eq_false (by simp))) rfl ?_
          refine Ops.nil ?_
          refine Ex.next ?_
          refine Cod.condF rfl ?_
          refine Cod.skip ?_
          refine Ex.next ?_
          refine Cod.seq ?_
          refine Cod.seq ?_
          refine Cod.region ?_
          refine Ops.val (opV_move rfl) rfl ?_
          refine Ops.val (opV_len Fx.sl_39 rfl hA73.sl.isSlice) rfl ?_
          refine Ops.val (opV_move rfl) rfl ?_
          refine Ops.nil ?_
          refine Ex.next ?_
          refine Cod.block ?_
          refine Cod.loop (X := Nat × List Value × Hp) (fun (k, ys, A8) => [(3, .pointer (some ⟨d, 0, none⟩)), (4, .pointer (some ⟨c, 0, none⟩)), (10, u10), (34, v), (35, .int .i64 os.length), (36, .int .i64 (i : Int)), (7, .pointer (some ⟨b7, 0, none⟩)), (8, v73), (88, .int .i64 o.cl.length), (89, .int .i64 (k : Int))]) (fun (k, ys, A8) => A8 :: [(b7, .cells #[.int .i64 o.kind, o.cv, S o.text, o.kv, .int .i64 o.tear] 63)] :: A2 :: DA2 :: logB lb d catB g size2 :: L2 :: As) (fun (k, ys, A8) => k ≤ o.cl.length ∧ Row 51 3 v73 o.cl.length ys A8 ∧ ys.length = o.cl.length * 3 ∧ ys.drop (k * 3) = (chs o.cl).drop (k * 3)) (fun (k, ys, A8) => o.cl.length - k) ((0, chs o.cl, A73)) (⟨Nat.zero_le _, hA73, hcv.1, rfl⟩) (by repeat (first | exact trivial | refine ⟨rfl, ?_⟩)) (fun _ h => h.subs (by first | ((repeat (first | exact Sub.refl | exact Sub.nil | apply Sub.emp | (apply Sub.cons; focus ((repeat (first | exact Pick.hd | apply Pick.tl)); done)) | (apply Sub.con; focus ((repeat (first | exact Pick.hd | apply Pick.tl)); done)) | (apply Sub.app; focus ((repeat (first | exact Pick.hd | apply Pick.tl)); done)) | apply Sub.drop)); done) | ((repeat (first | rw [List.append_assoc] | rw [List.cons_append] | rw [List.nil_append] | rw [List.append_nil])); (repeat (first | exact Sub.refl | exact Sub.nil | apply Sub.emp | (apply Sub.cons; focus ((repeat (first | exact Pick.hd | apply Pick.tl)); done)) | (apply Sub.con; focus ((repeat (first | exact Pick.hd | apply Pick.tl)); done)) | (apply Sub.app; focus ((repeat (first | exact Pick.hd | apply Pick.tl)); done)) | apply Sub.drop)); done))) ?_
          rintro ⟨k, ys, A8⟩ ⟨hk, hA8, hyl, hyd⟩
          try dsimp only
          refine Cod.seq ?_
          refine Cod.region ?_
          refine Ops.val (opV_lss rfl rfl (by first | exact decide_eq_true (by omega) | exact decide_eq_false (by omega) | rfl)) rfl ?_
          refine Ops.nil ?_
          refine Ex.next ?_
          refine Cod.seq ?_
          refine Cod.cond rfl (fun hck => ?_) (fun hck => ?_)
          · try simp at hck
            obtain ⟨x, hx⟩ : ∃ x, o.cl[k]? = some x := ⟨_, List.getElem?_eq_getElem (by omega)⟩
            refine Cod.skip ?_
            refine Ex.next ?_
            refine Cod.seq ?_
            refine Cod.block ?_
            refine Cod.seq ?_
            refine Cod.region ?_
            refine Ops.val (opV_move rfl) rfl ?_
            refine Ops.val (opV_assign rfl) rfl ?_
            refine Ops.nil ?_
            refine Ex.next ?_
            refine Cod.seq ?_
            refine Cod.seq ?_
            refine Cod.draw0 [3, 5, 8] [0, 1, 2, 4, 6, 7, 9] [0, 1, 2, 3, 4, 5, 6, 7, 8, 9] M.mixed (by kernel_rfl) ?_
            refine AnyJ.valU rfl rfl rfl (opV_move rfl) rfl (fun _ _ _ h => h.2.elim) ?_
            refine AnyJ.valU rfl rfl rfl (opV_move rfl) rfl (fun _ _ _ h => h.2.elim) ?_
            refine AnyJ.valU rfl rfl rfl (opV_indexAddr Fx.sl_39 rfl hA8.sl (k := k) rfl (by omega)) rfl (fun _ _ _ h => h.2.elim) ?_
            refine AnyJ.val rfl rfl (opV_loadEA Fx.agg_51 rfl hA8.sl (.mem (by repeat (first | exact List.Mem.head _ | apply List.Mem.tail))) ((congrArg (List.take 3) hyd).trans (chs_get hx)) rfl (by decide)) rfl (fun _ _ _ h => h.2.elim) (fun _ h => h) ?_
            refine AnyJ.valU rfl rfl rfl (opV_field Fx.fld_63_1 rfl) rfl (fun _ _ _ h => h.2.elim) ?_
            refine AnyJ.val rfl rfl (opV_load Fx.scal_39 rfl (by repeat (first | exact Cell.one rfl | assumption | apply Cell.tl))) rfl (fun _ _ _ h => h.2.elim) (fun _ h => h) ?_
            refine AnyJ.valU rfl rfl rfl (opV_move rfl) rfl (fun _ _ _ h => h.2.elim) ?_
            refine AnyJ.valU rfl rfl rfl (opV_indexAddr Fx.sl_39 rfl hcv (k := k) rfl (by omega)) rfl (fun _ _ _ h => h.2.elim) ?_
            refine AnyJ.val rfl rfl (opV_loadEA Fx.agg_51 rfl hcv .base (chs_get hx) rfl (by decide)) rfl (fun _ _ _ h => h.2.elim) (fun _ h => h) ?_
            refine AnyJ.valU rfl rfl rfl (opV_stneq Fx.flat_51 rfl rfl rfl rfl ((eqv_chV _ _ _))) rfl (fun _ _ _ h => h.2.elim) ?_
            refine AnyJ.nil ?_
            refine Ex.next ?_
            refine Cod.condF rfl ?_
            refine Cod.skip ?_
            refine Ex.next ?_
            refine Cod.region ?_
            refine Ops.val (opV_move rfl) rfl ?_
            refine Ops.val (opV_move rfl) rfl ?_
            refine Ops.val (opV_build Fx.st_51 rfl (by first | (simp [fillL, vcells, putAt]; rfl) | (simp [fillL, vcells, putAt]; done) | rfl)) rfl ?_
            refine Ops.val (opV_indexAddr Fx.sl_39 rfl hA8.sl (k := k) rfl (by omega)) rfl ?_
            refine Ops.stE rfl (opS_storeEA Fx.agg_51 rfl rfl rfl (by decide) (by (try simp only [putAt]); simp only [List.mem_cons, List.not_mem_nil, or_false]; (try simp only [forall_eq_or_imp]); (try simp only [forall_eq]); (repeat' apply And.intro) <;> first | rfl | assumption | exact Row.one (by assumption) | exact Sl.one (by assumption)) (by repeat (first | exact Pick.hd | apply Pick.tl)) hA8 (by omega) ) ?_
            rintro _ ⟨A9, hA9, rfl⟩
            have hnd : (putAt ys (k * 3) [S [42], S [], .bool false]).drop ((k + 1) * 3) = (chs o.cl).drop ((k + 1) * 3) := by
                have hp := putAt_rest (cs := ys) (vs := [S [42], S [], .bool false]) (k := k * 3) (by simp; omega)
                have e1 : (k + 1) * 3 = k * 3 + [S [42], S [], Value.bool false].length := by simp; omega
                rw [e1, hp, ← List.drop_drop, hyd, List.drop_drop]
            refine Ops.nil ?_
            refine Ex.blockNormal ?_
            refine Ex.next ?_
            refine Cod.region ?_
            refine Ops.val (opV_add64 rfl rfl (by omega)) rfl ?_
            refine Ops.val (opV_move rfl) rfl ?_
            refine Ops.nil ?_
            refine Ex.toN (fun _ _ hs => ⟨(k + 1, _, A9), ⟨by dsimp only; omega, hA9, by dsimp only; rw [putAt_len (by simp; omega)]; exact hyl, hnd⟩, (by first | omega | (dsimp only; omega) | (simp; omega) | (simp; done)), hs⟩) (by repeat (first | exact trivial | refine ⟨rfl, ?_⟩)) (fun _ h => h.subs (by first | ((repeat (first | exact Sub.refl | exact Sub.nil | apply Sub.emp | (apply Sub.cons; focus ((repeat (first | exact Pick.hd | apply Pick.tl)); done)) | (apply Sub.con; focus ((repeat (first | exact Pick.hd | apply Pick.tl)); done)) | (apply Sub.app; focus ((repeat (first | exact Pick.hd | apply Pick.tl)); done)) | apply Sub.drop)); done) | ((repeat (first | rw [List.append_assoc] | rw [List.cons_append] | rw [List.nil_append] | rw [List.append_nil])); (repeat (first | exact Sub.refl | exact Sub.nil | apply Sub.emp | (apply Sub.cons; focus ((repeat (first | exact Pick.hd | apply Pick.tl)); done)) | (apply Sub.con; focus ((repeat (first | exact Pick.hd | apply Pick.tl)); done)) | (apply Sub.app; focus ((repeat (first | exact Pick.hd | apply Pick.tl)); done)) | apply Sub.drop)); done)))
          · try simp at hck
            refine Cod.exit ?_
            refine Ex.thenExit ?_
            refine Ex.thenExit ?_
            refine Ex.blockHit ?_
            refine Ex.next ?_
            refine Cod.region ?_
            refine Ops.val (opV_move rfl) rfl ?_
            refine Ops.val (opV_assign rfl) rfl ?_
            refine Ops.nil ?_
            refine Ex.blockNormal ?_
            refine Ex.toN (fun _ _ hs => ⟨⟨if doneF es o.cl then afterE es o.cl else es, hist2, g, size2, D2, d, c, lb, u10, L2, A2, DA2⟩, ⟨hCI2.mono (by omega) (by omega), hA2, hDA2, hL2⟩, hs⟩) (by repeat (first | exact trivial | refine ⟨rfl, ?_⟩)) (fun _ h => h.subs (by first | ((repeat (first | exact Sub.refl | exact Sub.nil | apply Sub.emp | (apply Sub.cons; focus ((repeat (first | exact Pick.hd | apply Pick.tl)); done)) | (apply Sub.con; focus ((repeat (first | exact Pick.hd | apply Pick.tl)); done)) | (apply Sub.app; focus ((repeat (first | exact Pick.hd | apply Pick.tl)); done)) | apply Sub.drop)); done) | ((repeat (first | rw [List.append_assoc] | rw [List.cons_append] | rw [List.nil_append] | rw [List.append_nil])); (repeat (first | exact Sub.refl | exact Sub.nil | apply Sub.emp | (apply Sub.cons; focus ((repeat (first | exact Pick.hd | apply Pick.tl)); done)) | (apply Sub.con; focus ((repeat (first | exact Pick.hd | apply Pick.tl)); done)) | (apply Sub.app; focus ((repeat (first | exact Pick.hd | apply Pick.tl)); done)) | apply Sub.drop)); done)))
        · try simp at hb
          refine Cod.seq ?_
          refine Cod.region ?_
          refine Ops.val (opV_eql rfl rfl rfl) rfl ?_
          refine Ops.val (opV_assign rfl) rfl ?_
          refine Ops.nil ?_
          refine Ex.next ?_
          refine Cod.cond rfl (fun hk3 => ?_) (fun hk3 => ?_)
          · try simp at hk3
            refine Cod.seq ?_
            refine Cod.region ?_
            refine Ops.val (opV_move rfl) rfl ?_
            refine Ops.val (opV_field Fx.fld_63_2 rfl) rfl ?_
            refine Ops.val (opV_load Fx.scal_9 rfl (by repeat (first | exact Cell.one rfl | assumption | apply Cell.tl))) rfl ?_
            refine Ops.call rfl (opC_call Fx.cal_21 rfl (fun w hw => get_spec (key := o.text) hw (A := A) (.mem (by repeat (first | exact List.Mem.head _ | apply List.Mem.tail))) hA)) rfl ?_
            rintro v114 _ ⟨rfl, rfl⟩
            refine Ops.val (opV_move rfl) rfl ?_
            refine Ops.val (opV_extract rfl rfl) rfl ?_
            refine Ops.val (opV_extract rfl rfl) rfl ?_
            refine Ops.val (opV_assign rfl) rfl ?_
            refine Ops.val (opV_assign rfl) rfl ?_
            refine Ops.nil ?_
            refine Ex.next ?_
            refine Cod.seq ?_
            refine Cod.region ?_
            refine Ops.val (opV_move rfl) rfl ?_
            refine Ops.val (opV_field Fx.fld_63_2 rfl) rfl ?_
            refine Ops.val (opV_load Fx.scal_9 rfl (by repeat (first | exact Cell.one rfl | assumption | apply Cell.tl))) rfl ?_
            refine Ops.call rfl (opC_call Fx.cal_26 rfl (fun w hw => get_r (key := o.text) (l := pairsOf es) rfl (by omega) hw (A := L) (.mem (by repeat (first | exact List.Mem.head _ | apply List.Mem.tail))) hL)) rfl ?_
            rintro v121 _ ⟨rfl, rfl⟩
            rw [pairs_lkp hCI.nd]
            refine Ops.val (opV_move rfl) rfl ?_
            refine Ops.val (opV_extract rfl rfl) rfl ?_
            refine Ops.val (opV_extract rfl rfl) rfl ?_
            refine Ops.val (opV_assign rfl) rfl ?_
            refine Ops.val (opV_assign rfl) rfl ?_
            refine Ops.nil ?_
            refine Ex.next ?_
            refine Cod.seq ?_
            refine Cod.region ?_
            refine Ops.val (opV_move rfl) rfl ?_
            refine Ops.val (opV_move rfl) rfl ?_
            refine Ops.val (opV_sneq rfl rfl (decide_eq_false (by simp))) rfl ?_
            refine Ops.val (opV_move rfl) rfl ?_
            refine Ops.valg rfl (opV_move rfl) rfl ?_
            refine Ops.valg rfl (opV_move rfl) rfl ?_
            refine Ops.valg rfl (opV_bneql Fx.und_4 rfl rfl (show _ = false by simp)) rfl ?_
            refine Ops.val (opV_pickF rfl rfl) rfl ?_
            refine Ops.nil ?_
            refine Ex.next ?_
            refine Cod.condF rfl ?_
            refine Cod.skip ?_
            refine Ex.blockNormal ?_
            refine Ex.toN (fun _ _ hs => ⟨⟨es, hist, g, size, D, d, c, lb, u5, L, A, DA⟩, ⟨hCI.mono (by omega) (by omega), hA, hDA, hL⟩, hs⟩) (by repeat (first | exact trivial | refine ⟨rfl, ?_⟩)) (fun _ h => h.subs (by first | ((repeat (first | exact Sub.refl | exact Sub.nil | apply Sub.emp | (apply Sub.cons; focus ((repeat (first | exact Pick.hd | apply Pick.tl)); done)) | (apply Sub.con; focus ((repeat (first | exact Pick.hd | apply Pick.tl)); done)) | (apply Sub.app; focus ((repeat (first | exact Pick.hd | apply Pick.tl)); done)) | apply Sub.drop)); done) | ((repeat (first | rw [List.append_assoc] | rw [List.cons_append] | rw [List.nil_append] | rw [List.append_nil])); (repeat (first | exact Sub.refl | exact Sub.nil | apply Sub.emp | (apply Sub.cons; focus ((repeat (first | exact Pick.hd | apply Pick.tl)); done)) | (apply Sub.con; focus ((repeat (first | exact Pick.hd | apply Pick.tl)); done)) | (apply Sub.app; focus ((repeat (first | exact Pick.hd | apply Pick.tl)); done)) | apply Sub.drop)); done)))
          · try simp at hk3
            refine Cod.seq ?_
            refine Cod.region ?_
            refine Ops.val (opV_eql rfl rfl rfl) rfl ?_
            refine Ops.val (opV_assign rfl) rfl ?_
            refine Ops.nil ?_
            refine Ex.next ?_
            refine Cod.cond rfl (fun hk4 => ?_) (fun hk4 => ?_)
            · try simp at hk4
              refine Cod.seq ?_
              refine Cod.region ?_
              refine Ops.val (opV_move rfl) rfl ?_
              refine Ops.val (opV_field Fx.fld_63_2 rfl) rfl ?_
              refine Ops.val (opV_load Fx.scal_9 rfl (by repeat (first | exact Cell.one rfl | assumption | apply Cell.tl))) rfl ?_
              refine Ops.call rfl (opC_call Fx.cal_27 rfl (fun w hw => keys_spec (es := es) (pre := o.text) (by omega) (by omega) hw (A := A) (.mem (by repeat (first | exact List.Mem.head _ | apply List.Mem.tail))) hA)) rfl ?_
              rintro v137 _ ⟨AK, hAK, rfl⟩
              refine Ops.val (opV_assign rfl) rfl ?_
              refine Ops.nil ?_
              refine Ex.next ?_
              refine Cod.seq ?_
              refine Cod.seq ?_
              refine Cod.region ?_
              refine Ops.val (opV_move rfl) rfl ?_
              refine Ops.val (opV_move rfl) rfl ?_
              refine Ops.val (opV_field Fx.fld_63_2 rfl) rfl ?_
              refine Ops.val (opV_load Fx.scal_9 rfl (by repeat (first | exact Cell.one rfl | assumption | apply Cell.tl))) rfl ?_
              refine Ops.call rfl (opC_call Fx.cal_29 rfl (fun w hw => keys_r (pre := o.text) (l := pairsOf es) rfl (by omega) (by rw [sumB_perm (pairsOf_perm hCI.nd)]; omega) (by omega) hw (A := L) (.mem (by repeat (first | exact List.Mem.head _ | apply List.Mem.tail))) hL)) rfl ?_
              rintro v142 _ ⟨AR, hAR, rfl⟩
              rw [pairs_keys] at hAR
              refine Ops.call rfl (opC_call Fx.cal_28 rfl (fun w hw => texts_true rfl hw (A := AK) (.mem (by repeat (first | exact List.Mem.head _ | apply List.Mem.tail))) (B := AR) (.mem (by repeat (first | exact List.Mem.head _ | apply List.Mem.tail))) rfl rfl (Nat.le_trans (List.length_filter_le _ _) (by rw [sk_len]; omega)) hAK.sl hAR.sl)) rfl ?_
              rintro v143 _ ⟨rfl, rfl⟩
              refine Ops.val (opV_not rfl) rfl ?_
              refine Ops.nil ?_
              refine Ex.next ?_
              refine Cod.condF rfl ?_
              refine Cod.skip ?_
              refine Ex.next ?_
              refine Cod.seq ?_
              refine Cod.region ?_
              refine Ops.val (opV_move rfl) rfl ?_
              refine Ops.val (opV_len Fx.sl_67 rfl hAK.sl.isSlice) rfl ?_
              have hkb : ((sk es).filter (Kit.hasPre o.text)).length ≤ es.length := Nat.le_trans (List.length_filter_le _ _) (by rw [sk_len]; omega)
              generalize hKn : ((sk es).filter (Kit.hasPre o.text)).length = kn at hAK
              refine Ops.val (opV_move rfl) rfl ?_
              refine Ops.nil ?_
              refine Ex.next ?_
              refine Cod.block ?_
              refine Cod.loop (X := Nat × List Value × Hp) (fun (k, ys, A8) => [(3, .pointer (some ⟨d, 0, none⟩)), (4, .pointer (some ⟨c, 0, none⟩)), (5, u5), (34, v), (35, .int .i64 os.length), (36, .int .i64 (i : Int)), (17, v137), (146, .int .i64 kn), (147, .int .i64 (k : Int))]) (fun (k, ys, A8) => A8 :: A :: DA :: logB lb d catB g size :: L :: As) (fun (k, ys, A8) => k ≤ kn ∧ Row 9 1 v137 kn ys A8) (fun (k, ys, A8) => kn - k) ((0, _, AK)) (⟨Nat.zero_le _, hAK⟩) (by repeat (first | exact trivial | refine ⟨rfl, ?_⟩)) (fun _ h => h.subs (by first | ((repeat (first | exact Sub.refl | exact Sub.nil | apply Sub.emp | (apply Sub.cons; focus ((repeat (first | exact Pick.hd | apply Pick.tl)); done)) | (apply Sub.con; focus ((repeat (first | exact Pick.hd | apply Pick.tl)); done)) | (apply Sub.app; focus ((repeat (first | exact Pick.hd | apply Pick.tl)); done)) | apply Sub.drop)); done) | ((repeat (first | rw [List.append_assoc] | rw [List.cons_append] | rw [List.nil_append] | rw [List.append_nil])); (repeat (first | exact Sub.refl | exact Sub.nil | apply Sub.emp | (apply Sub.cons; focus ((repeat (first | exact Pick.hd | apply Pick.tl)); done)) | (apply Sub.con; focus ((repeat (first | exact Pick.hd | apply Pick.tl)); done)) | (apply Sub.app; focus ((repeat (first | exact Pick.hd | apply Pick.tl)); done)) | apply Sub.drop)); done))) ?_
              rintro ⟨k, ys, A8⟩ ⟨hk, hA8⟩
              try dsimp only
              refine Cod.seq ?_
              refine Cod.region ?_
              refine Ops.val (opV_lss rfl rfl (by first | exact decide_eq_true (by omega) | exact decide_eq_false (by omega) | rfl)) rfl ?_
              refine Ops.nil ?_
              refine Ex.next ?_
              refine Cod.seq ?_
              refine Cod.cond rfl (fun hck => ?_) (fun hck => ?_)
              · try simp at hck
                refine Cod.skip ?_
                refine Ex.next ?_
                refine Cod.seq ?_
                refine Cod.block ?_
                refine Cod.seq ?_
                refine Cod.region ?_
                refine Ops.val (opV_move rfl) rfl ?_
                refine Ops.val (opV_assign rfl) rfl ?_
                refine Ops.nil ?_
                refine Ex.next ?_
                refine Cod.region ?_
                refine Ops.val (opV_move rfl) rfl ?_
                refine Ops.val (opV_move rfl) rfl ?_
                refine Ops.val (opV_indexAddr Fx.sl_67 rfl hA8.sl (k := k) rfl (by omega)) rfl ?_
                refine Ops.stE rfl (opS_storeE Fx.scal_9 Fx.sz1_9 rfl rfl (by first | rfl | assumption | exact Row.one (by assumption) | exact Sl.one (by assumption)) (by repeat (first | exact Pick.hd | apply Pick.tl)) hA8 (by have := hA8.1; omega) ) ?_
                rintro _ ⟨A9, hA9, rfl⟩
                refine Ops.nil ?_
                refine Ex.blockNormal ?_
                refine Ex.next ?_
                refine Cod.region ?_
                refine Ops.val (opV_add64 rfl rfl (by omega)) rfl ?_
                refine Ops.val (opV_move rfl) rfl ?_
                refine Ops.nil ?_
                refine Ex.toN (fun _ _ hs => ⟨(k + 1, _, A9), ⟨by dsimp only; omega, hA9⟩, (by first | omega | (dsimp only; omega) | (simp; omega) | (simp; done)), hs⟩) (by repeat (first | exact trivial | refine ⟨rfl, ?_⟩)) (fun _ h => h.subs (by first | ((repeat (first | exact Sub.refl | exact Sub.nil | apply Sub.emp | (apply Sub.cons; focus ((repeat (first | exact Pick.hd | apply Pick.tl)); done)) | (apply Sub.con; focus ((repeat (first | exact Pick.hd | apply Pick.tl)); done)) | (apply Sub.app; focus ((repeat (first | exact Pick.hd | apply Pick.tl)); done)) | apply Sub.drop)); done) | ((repeat (first | rw [List.append_assoc] | rw [List.cons_append] | rw [List.nil_append] | rw [List.append_nil])); (repeat (first | exact Sub.refl | exact Sub.nil | apply Sub.emp | (apply Sub.cons; focus ((repeat (first | exact Pick.hd | apply Pick.tl)); done)) | (apply Sub.con; focus ((repeat (first | exact Pick.hd | apply Pick.tl)); done)) | (apply Sub.app; focus ((repeat (first | exact Pick.hd | apply Pick.tl)); done)) | apply Sub.drop)); done)))
              · try simp at hck
                refine Cod.exit ?_
                refine Ex.thenExit ?_
                refine Ex.thenExit ?_
                refine Ex.blockHit ?_
                refine Ex.blockNormal ?_
                refine Ex.toN (fun _ _ hs => ⟨⟨es, hist, g, size, D, d, c, lb, u5, L, A, DA⟩, ⟨hCI.mono (by omega) (by omega), hA, hDA, hL⟩, hs⟩) (by repeat (first | exact trivial | refine ⟨rfl, ?_⟩)) (fun _ h => h.subs (by first | ((repeat (first | exact Sub.refl | exact Sub.nil | apply Sub.emp | (apply Sub.cons; focus ((repeat (first | exact Pick.hd | apply Pick.tl)); done)) | (apply Sub.con; focus ((repeat (first | exact Pick.hd | apply Pick.tl)); done)) | (apply Sub.app; focus ((repeat (first | exact Pick.hd | apply Pick.tl)); done)) | apply Sub.drop)); done) | ((repeat (first | rw [List.append_assoc] | rw [List.cons_append] | rw [List.nil_append] | rw [List.append_nil])); (repeat (first | exact Sub.refl | exact Sub.nil | apply Sub.emp | (apply Sub.cons; focus ((repeat (first | exact Pick.hd | apply Pick.tl)); done)) | (apply Sub.con; focus ((repeat (first | exact Pick.hd | apply Pick.tl)); done)) | (apply Sub.app; focus ((repeat (first | exact Pick.hd | apply Pick.tl)); done)) | apply Sub.drop)); done)))
            · try simp at hk4
              refine Cod.seq ?_
              refine Cod.region ?_
              refine Ops.val (opV_eql rfl rfl rfl) rfl ?_
              refine Ops.val (opV_assign rfl) rfl ?_
              refine Ops.nil ?_
              refine Ex.next ?_
              refine Cod.cond rfl (fun hk5 => ?_) (fun hk5 => ?_)
              · try simp at hk5
                refine Cod.seq ?_
                refine Cod.seq ?_
                refine Cod.region ?_
                refine Ops.val (opV_move rfl) rfl ?_
                refine Ops.call rfl (opC_call Fx.cal_30 rfl (fun w hw => compactCI hG hCI (by omega) (by omega) hw (A := A) (by repeat (first | exact Pick.hd | apply Pick.tl)) (DA := DA) (by repeat (first | exact Pick.hd | apply Pick.tl)) (by repeat (first | exact Pick.hd | apply Pick.tl)) hA hDA)) rfl ?_
                rintro v157 _ ⟨rfl, hist2, size2, D2, DA2, hCI2, hus2, hDA2, rfl⟩
                refine Ops.val (opV_neq rfl rfl rfl) rfl ?_
                refine Ops.nil ?_
                refine Ex.next ?_
                refine Cod.condF rfl ?_
                refine Cod.skip ?_
                refine Ex.next ?_
                refine Cod.seq ?_
                refine Cod.region ?_
                refine Ops.val (opV_move rfl) rfl ?_
                refine Ops.call rfl (opC_call Fx.cal_14 rfl (fun w hw => used_spec hw (.mem (by repeat (first | exact List.Mem.head _ | apply List.Mem.tail))) hDA2)) rfl ?_
                rintro v160 _ ⟨rfl, rfl⟩
                refine Ops.val (opV_move rfl) rfl ?_
                refine Ops.val (opV_len Fx.sl_47 rfl hL.isSlice) rfl ?_
                refine Ops.val (opV_mul64 rfl rfl (by omega)) rfl ?_
                refine Ops.val (opV_add64 rfl rfl (by omega)) rfl ?_
                refine Ops.val (opV_move rfl) rfl ?_
                refine Ops.call rfl (opC_call Fx.cal_31 rfl (fun w hw => bytes_r (l := pairsOf es) rfl (by omega) (by rw [sumB_perm (pairsOf_perm hCI.nd)]; omega) hw (A := L) (.mem (by repeat (first | exact List.Mem.head _ | apply List.Mem.tail))) hL)) rfl ?_
                rintro v166 _ ⟨rfl, rfl⟩
                rw [sumB_perm (pairsOf_perm hCI.nd)]
                refine Ops.val (opV_add64 rfl rfl (by omega)) rfl ?_
                refine Ops.val (opV_gtr rfl rfl (decide_eq_false (by omega))) rfl ?_
                refine Ops.nil ?_
                refine Ex.next ?_
                refine Cod.condF rfl ?_
                refine Cod.skip ?_
                refine Ex.blockNormal ?_
                refine Ex.toN (fun _ _ hs => ⟨⟨es, hist2, g + 1, size2, D2, d, c, lb, u5, L, A, DA2⟩, ⟨hCI2.mono (by omega) (by omega), hA, hDA2, hL⟩, hs⟩) (by repeat (first | exact trivial | refine ⟨rfl, ?_⟩)) (fun _ h => h.subs (by first | ((repeat (first | exact Sub.refl | exact Sub.nil | apply Sub.emp | (apply Sub.cons; focus ((repeat (first | exact Pick.hd | apply Pick.tl)); done)) | (apply Sub.con; focus ((repeat (first | exact Pick.hd | apply Pick.tl)); done)) | (apply Sub.app; focus ((repeat (first | exact Pick.hd | apply Pick.tl)); done)) | apply Sub.drop)); done) | ((repeat (first | rw [List.append_assoc] | rw [List.cons_append] | rw [List.nil_append] | rw [List.append_nil])); (repeat (first | exact Sub.refl | exact Sub.nil | apply Sub.emp | (apply Sub.cons; focus ((repeat (first | exact Pick.hd | apply Pick.tl)); done)) | (apply Sub.con; focus ((repeat (first | exact Pick.hd | apply Pick.tl)); done)) | (apply Sub.app; focus ((repeat (first | exact Pick.hd | apply Pick.tl)); done)) | apply Sub.drop)); done)))
              · try simp at hk5
                refine Cod.seq ?_
                refine Cod.region ?_
                refine Ops.val (opV_move rfl) rfl ?_
                refine Ops.val (opV_field Fx.fld_63_3 rfl) rfl ?_
                refine Ops.val (opV_loadA Fx.agg_42 rfl (vs := [o.kv, .int .i64 o.tear]) rfl (.mk (A := [(b7, .cells #[.int .i64 o.kind, o.cv, S o.text, o.kv, .int .i64 o.tear] 63)]) (cs := [.int .i64 o.kind, o.cv, S o.text, o.kv, .int .i64 o.tear]) (.mem (by repeat (first | exact List.Mem.head _ | apply List.Mem.tail))) (List.Mem.head _) rfl)) rfl ?_
                refine Ops.call rfl (opC_call Fx.cal_23 rfl (fun w hw => crashCI (keep := o.keep) (kn := o.keep.length) (tear := o.tear) hCI (by omega) (by omega) rfl (by omega) hw (DA := DA) (.mem (by repeat (first | exact List.Mem.head _ | apply List.Mem.tail))) hDA (KA := e.base) .base hkv)) rfl ?_
                rintro v47 _ ⟨vs, AC, LA, hAC, hLA, rfl⟩
                obtain ⟨a47, c47, rfl⟩ := hAC.isSlice
                refine Ops.call rfl (opC_call Fx.cal_22 rfl (fun w hw => openCI hCI (by omega) (by omega) hw (A := AC) (.mem (by repeat (first | exact List.Mem.head _ | apply List.Mem.tail))) (B := LA) (.mem (by repeat (first | exact List.Mem.head _ | apply List.Mem.tail))) hAC.sl hLA)) rfl ?_
                rintro v48 _ ⟨p, DN, rfl, hDN, rfl⟩
                refine Ops.val (opV_move rfl) rfl ?_
                refine Ops.val (opV_extract rfl rfl) rfl ?_
                refine Ops.val (opV_extract rfl rfl) rfl ?_
                refine Ops.val (opV_assign rfl) rfl ?_
                refine Ops.val (opV_assign rfl) rfl ?_
                refine Ops.nil ?_
                refine Ex.next ?_
                refine Cod.seq ?_
                refine Cod.seq ?_
                refine Cod.region ?_
                refine Ops.val (opV_move rfl) rfl ?_
                refine Ops.val (opV_ptrnil Fx.ptr_24 rfl rfl rfl) rfl ?_
                refine Ops.nil ?_
                refine Ex.next ?_
                refine Cod.condF rfl ?_
                refine Cod.skip ?_
                refine Ex.next ?_
                refine Cod.seq ?_
                refine Cod.region ?_
                refine Ops.val (opV_move rfl) rfl ?_
                refine Ops.call rfl (opC_call Fx.cal_24 rfl (fun w hw => catOpenCI hG hE hCI (by omega) (by omega) hw (DA := DN) (by repeat (first | exact Pick.hd | apply Pick.tl)) hDN)) rfl ?_
                rintro v55 _ ⟨cN, lN, AN, DA3, rfl, hAN, hDA3, rfl⟩
                refine Ops.val (opV_move rfl) rfl ?_
                refine Ops.val (opV_extract rfl rfl) rfl ?_
                refine Ops.val (opV_extract rfl rfl) rfl ?_
                refine Ops.val (opV_assign rfl) rfl ?_
                refine Ops.val (opV_assign rfl) rfl ?_
                refine Ops.nil ?_
                refine Ex.next ?_
                refine Cod.seq ?_
                refine Cod.seq ?_
                refine Cod.region ?_
                refine Ops.val (opV_move rfl) rfl ?_
                refine Ops.val (opV_ptrnil Fx.ptr_43 rfl rfl rfl) rfl ?_
                refine Ops.val (opV_move rfl) rfl ?_
                refine Ops.valg rfl (opV_move rfl) rfl ?_
                refine Ops.valg rfl (opV_neq rfl rfl rfl) rfl ?_
                refine Ops.val (opV_pickF rfl rfl) rfl ?_
                refine Ops.nil ?_
                refine Ex.next ?_
                refine Cod.condF rfl ?_
                refine Cod.skip ?_
                refine Ex.next ?_
                refine Cod.region ?_
                refine Ops.val (opV_move rfl) rfl ?_
                refine Ops.val (opV_move rfl) rfl ?_
                refine Ops.val (opV_assign rfl) rfl ?_
                refine Ops.val (opV_assign rfl) rfl ?_
                refine Ops.nil ?_
                refine Ex.blockNormal ?_
                refine Ex.toN (fun _ _ hs => ⟨⟨afterE [] hist.flatten, hist, g, (logOf hist).length, D, p, cN, lN, u5, L, AN, DA3⟩, ⟨hCI.anew.mono (by omega) (by omega), hAN, hDA3, by dsimp only; rw [hCI.pairs]; exact hL⟩, hs⟩) (by repeat (first | exact trivial | refine ⟨rfl, ?_⟩)) (fun _ h => h.subs (by first | ((repeat (first | exact Sub.refl | exact Sub.nil | apply Sub.emp | (apply Sub.cons; focus ((repeat (first | exact Pick.hd | apply Pick.tl)); done)) | (apply Sub.con; focus ((repeat (first | exact Pick.hd | apply Pick.tl)); done)) | (apply Sub.app; focus ((repeat (first | exact Pick.hd | apply Pick.tl)); done)) | apply Sub.drop)); done) | ((repeat (first | rw [List.append_assoc] | rw [List.cons_append] | rw [List.nil_append] | rw [List.append_nil])); (repeat (first | exact Sub.refl | exact Sub.nil | apply Sub.emp | (apply Sub.cons; focus ((repeat (first | exact Pick.hd | apply Pick.tl)); done)) | (apply Sub.con; focus ((repeat (first | exact Pick.hd | apply Pick.tl)); done)) | (apply Sub.app; focus ((repeat (first | exact Pick.hd | apply Pick.tl)); done)) | apply Sub.drop)); done)))
    · rintro ⟨es2, hist2, g2, size2, D2, d2, c2, lb2, u52, L2, A2, DA2⟩ ⟨hCI2, hA2, hDA2, hL2⟩
      try dsimp only
      dsimp only at hCI2 hA2 hDA2 hL2
      have hel2 := hCI2.el
      have hpl2 := pairs_len es2
      refine Cod.seq ?_
      refine Cod.region ?_
      refine Ops.val (opV_move rfl) rfl ?_
      refine Ops.call rfl (opC_call Fx.cal_19 rfl (fun w hw => pairsCI hCI2 hw (A := A2) (.mem (by repeat (first | exact List.Mem.head _ | apply List.Mem.tail))) hA2)) rfl ?_
      rintro v170 _ ⟨AP, hAP, rfl⟩
      refine Ops.val (opV_assign rfl) rfl ?_
      refine Ops.nil ?_
      refine Ex.next ?_
      refine Cod.seq ?_
      refine Cod.seq ?_
      refine Cod.region ?_
      refine Ops.val (opV_move rfl) rfl ?_
      refine Ops.val (opV_move rfl) rfl ?_
      refine Ops.call rfl (opC_call Fx.cal_20 rfl (fun w hw => pairs_true rfl hw (A := AP) (.mem (by repeat (first | exact List.Mem.head _ | apply List.Mem.tail))) (B := L2) (.mem (by repeat (first | exact List.Mem.head _ | apply List.Mem.tail))) rfl rfl (by omega) hAP.sl hL2)) rfl ?_
      rintro v173 _ ⟨rfl, rfl⟩
      refine Ops.val (opV_not rfl) rfl ?_
      refine Ops.nil ?_
      refine Ex.next ?_
      refine Cod.condF rfl ?_
      refine Cod.skip ?_
      refine Ex.next ?_
      refine Cod.seq ?_
      refine Cod.region ?_
      refine Ops.val (opV_move rfl) rfl ?_
      refine Ops.val (opV_len Fx.sl_47 rfl hAP.sl.isSlice) rfl ?_
      generalize hKn : (pairsOf es2).length = kn at hAP
      refine Ops.val (opV_move rfl) rfl ?_
      refine Ops.nil ?_
      refine Ex.next ?_
      refine Cod.block ?_
      refine Cod.loop (X := Nat × List Value × Hp) (fun (k, ys, A8) => [(3, .pointer (some ⟨d2, 0, none⟩)), (4, .pointer (some ⟨c2, 0, none⟩)), (5, u52), (34, v), (35, .int .i64 os.length), (36, .int .i64 (i : Int)), (23, v170), (176, .int .i64 kn), (177, .int .i64 (k : Int))]) (fun (k, ys, A8) => A8 :: A2 :: DA2 :: logB lb2 d2 catB g2 size2 :: L2 :: As) (fun (k, ys, A8) => k ≤ kn ∧ Row 74 2 v170 kn ys A8 ∧ ys.length = kn * 2) (fun (k, ys, A8) => kn - k) ((0, _, AP)) (⟨Nat.zero_le _, hAP, hAP.1⟩) (by repeat (first | exact trivial | refine ⟨rfl, ?_⟩)) (fun _ h => h.subs (by first | ((repeat (first | exact Sub.refl | exact Sub.nil | apply Sub.emp | (apply Sub.cons; focus ((repeat (first | exact Pick.hd | apply Pick.tl)); done)) | (apply Sub.con; focus ((repeat (first | exact Pick.hd | apply Pick.tl)); done)) | (apply Sub.app; focus ((repeat (first | exact Pick.hd | apply Pick.tl)); done)) | apply Sub.drop)); done) | ((repeat (first | rw [List.append_assoc] | rw [List.cons_append] | rw [List.nil_append] | rw [List.append_nil])); (repeat (first | exact Sub.refl | exact Sub.nil | apply Sub.emp | (apply Sub.cons; focus ((repeat (first | exact Pick.hd | apply Pick.tl)); done)) | (apply Sub.con; focus ((repeat (first | exact Pick.hd | apply Pick.tl)); done)) | (apply Sub.app; focus ((repeat (first | exact Pick.hd | apply Pick.tl)); done)) | apply Sub.drop)); done))) ?_
      rintro ⟨k, ys, A8⟩ ⟨hk, hA8, hyl⟩
      try dsimp only
      refine Cod.seq ?_
      refine Cod.region ?_
      refine Ops.val (opV_lss rfl rfl (by first | exact decide_eq_true (by omega) | exact decide_eq_false (by omega) | rfl)) rfl ?_
      refine Ops.nil ?_
      refine Ex.next ?_
      refine Cod.seq ?_
      refine Cod.cond rfl (fun hck => ?_) (fun hck => ?_)
      · try simp at hck
        refine Cod.skip ?_
        refine Ex.next ?_
        refine Cod.seq ?_
        refine Cod.block ?_
        refine Cod.seq ?_
        refine Cod.region ?_
        refine Ops.val (opV_move rfl) rfl ?_
        refine Ops.val (opV_assign rfl) rfl ?_
        refine Ops.nil ?_
        refine Ex.next ?_
        refine Cod.region ?_
        refine Ops.val (opV_move rfl) rfl ?_
        refine Ops.val (opV_move rfl) rfl ?_
        refine Ops.val (opV_build Fx.st_74 rfl (by first | (simp [fillL, vcells, putAt]; rfl) | (simp [fillL, vcells, putAt]; done) | rfl)) rfl ?_
        refine Ops.val (opV_indexAddr Fx.sl_47 rfl hA8.sl (k := k) rfl (by omega)) rfl ?_
        refine Ops.stE rfl (opS_storeEA Fx.agg_74 rfl rfl rfl (by decide) (by (try simp only [putAt]); simp only [List.mem_cons, List.not_mem_nil, or_false]; (try simp only [forall_eq_or_imp]); (try simp only [forall_eq]); (repeat' apply And.intro) <;> first | rfl | assumption | exact Row.one (by assumption) | exact Sl.one (by assumption)) (by repeat (first | exact Pick.hd | apply Pick.tl)) hA8 (by omega) ) ?_
        rintro _ ⟨A9, hA9, rfl⟩
        refine Ops.nil ?_
        refine Ex.blockNormal ?_
        refine Ex.next ?_
        refine Cod.region ?_
        refine Ops.val (opV_add64 rfl rfl (by omega)) rfl ?_
        refine Ops.val (opV_move rfl) rfl ?_
        refine Ops.nil ?_
        refine Ex.toN (fun _ _ hs => ⟨(k + 1, _, A9), ⟨by dsimp only; omega, hA9, by dsimp only; rw [putAt_len (by simp; omega)]; exact hyl⟩, (by first | omega | (dsimp only; omega) | (simp; omega) | (simp; done)), hs⟩) (by repeat (first | exact trivial | refine ⟨rfl, ?_⟩)) (fun _ h => h.subs (by first | ((repeat (first | exact Sub.refl | exact Sub.nil | apply Sub.emp | (apply Sub.cons; focus ((repeat (first | exact Pick.hd | apply Pick.tl)); done)) | (apply Sub.con; focus ((repeat (first | exact Pick.hd | apply Pick.tl)); done)) | (apply Sub.app; focus ((repeat (first | exact Pick.hd | apply Pick.tl)); done)) | apply Sub.drop)); done) | ((repeat (first | rw [List.append_assoc] | rw [List.cons_append] | rw [List.nil_append] | rw [List.append_nil])); (repeat (first | exact Sub.refl | exact Sub.nil | apply Sub.emp | (apply Sub.cons; focus ((repeat (first | exact Pick.hd | apply Pick.tl)); done)) | (apply Sub.con; focus ((repeat (first | exact Pick.hd | apply Pick.tl)); done)) | (apply Sub.app; focus ((repeat (first | exact Pick.hd | apply Pick.tl)); done)) | apply Sub.drop)); done)))
      · try simp at hck
        refine Cod.exit ?_
        refine Ex.thenExit ?_
        refine Ex.thenExit ?_
        refine Ex.blockHit ?_
        refine Ex.blockNormal ?_
        refine Ex.next ?_
        refine Cod.region ?_
        refine Ops.val (opV_add64 rfl rfl (by omega)) rfl ?_
        refine Ops.val (opV_move rfl) rfl ?_
        refine Ops.nil ?_
        refine Ex.toN (fun _ _ hs => ⟨(i + 1, ⟨es2, hist2, g2, size2, D2, d2, c2, lb2, u52, L2, A2, DA2⟩), ⟨by dsimp only; omega, hCI2, hA2, hDA2, hL2⟩, (by first | omega | (dsimp only; omega) | (simp; omega) | (simp; done)), hs⟩) (by repeat (first | exact trivial | refine ⟨rfl, ?_⟩)) (fun _ h => h.subs (by first | ((repeat (first | exact Sub.refl | exact Sub.nil | apply Sub.emp | (apply Sub.cons; focus ((repeat (first | exact Pick.hd | apply Pick.tl)); done)) | (apply Sub.con; focus ((repeat (first | exact Pick.hd | apply Pick.tl)); done)) | (apply Sub.app; focus ((repeat (first | exact Pick.hd | apply Pick.tl)); done)) | apply Sub.drop)); done) | ((repeat (first | rw [List.append_assoc] | rw [List.cons_append] | rw [List.nil_append] | rw [List.append_nil])); (repeat (first | exact Sub.refl | exact Sub.nil | apply Sub.emp | (apply Sub.cons; focus ((repeat (first | exact Pick.hd | apply Pick.tl)); done)) | (apply Sub.con; focus ((repeat (first | exact Pick.hd | apply Pick.tl)); done)) | (apply Sub.app; focus ((repeat (first | exact Pick.hd | apply Pick.tl)); done)) | apply Sub.drop)); done)))
  · try simp at hc
    refine Cod.exit ?_
    refine Ex.thenExit ?_
    refine Ex.thenExit ?_
    refine Ex.blockHit ?_
    refine Ex.next ?_
    refine Cod.seq ?_
    refine Cod.region ?_
    refine Ops.val (opV_move rfl) rfl ?_
    refine Ops.call rfl (opC_call Fx.cal_19 rfl (fun w hw => pairsCI hCI hw (A := A) (.mem (by repeat (first | exact List.Mem.head _ | apply List.Mem.tail))) hA)) rfl ?_
    rintro v187 _ ⟨AP, hAP, rfl⟩
    refine Ops.val (opV_move rfl) rfl ?_
    refine Ops.call rfl (opC_call Fx.cal_20 rfl (fun w hw => pairs_true rfl hw (A := AP) (.mem (by repeat (first | exact List.Mem.head _ | apply List.Mem.tail))) (B := L) (.mem (by repeat (first | exact List.Mem.head _ | apply List.Mem.tail))) rfl rfl (by omega) hAP.sl hL)) rfl ?_
    rintro v189 _ ⟨rfl, rfl⟩
    refine Ops.val (opV_assign rfl) rfl ?_
    refine Ops.nil ?_
    refine Ex.next ?_
    refine Cod.ret ?_
    exact Ex.ret1 rfl rfl (fun _ h => h.subs (by first | ((repeat (first | exact Sub.refl | exact Sub.nil | apply Sub.emp | (apply Sub.cons; focus ((repeat (first | exact Pick.hd | apply Pick.tl)); done)) | (apply Sub.con; focus ((repeat (first | exact Pick.hd | apply Pick.tl)); done)) | (apply Sub.app; focus ((repeat (first | exact Pick.hd | apply Pick.tl)); done)) | apply Sub.drop)); done) | ((repeat (first | rw [List.append_assoc] | rw [List.cons_append] | rw [List.nil_append] | rw [List.append_nil])); (repeat (first | exact Sub.refl | exact Sub.nil | apply Sub.emp | (apply Sub.cons; focus ((repeat (first | exact Pick.hd | apply Pick.tl)); done)) | (apply Sub.con; focus ((repeat (first | exact Pick.hd | apply Pick.tl)); done)) | (apply Sub.app; focus ((repeat (first | exact Pick.hd | apply Pick.tl)); done)) | apply Sub.drop)); done))) rfl
end
end Go.Proofs.YteejmoldhbfdnaaGreatDoor.Plays13
