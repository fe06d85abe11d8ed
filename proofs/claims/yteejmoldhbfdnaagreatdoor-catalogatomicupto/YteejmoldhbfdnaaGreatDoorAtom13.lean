/- warrenlaw13.CatalogAtomic, walked. -/
import Derived.Test.YteejmoldhbfdnaaGreatDoorSpeak13
set_option maxRecDepth 8000
namespace Go.Proofs.YteejmoldhbfdnaaGreatDoor.Atom13
open Go.W Go.RowKit Lib1 Oct OctR Seal Disk Disk2 Wal Num Wal2 Wal3 CatL Cat Cat2 Cat3 Cat4 LogL CInv Law13
namespace Fx
theorem agg_42 : aggSz Tryz.prog 42 = some 2 := by kernel_rfl
theorem agg_51 : aggSz Tryz.prog 51 = some 3 := by kernel_rfl
theorem cal_16 : callable Tryz.prog 16 = true := by kernel_rfl
theorem cal_17 : callable Tryz.prog 17 = true := by kernel_rfl
theorem cal_18 : callable Tryz.prog 18 = true := by kernel_rfl
theorem cal_19 : callable Tryz.prog 19 = true := by kernel_rfl
theorem cal_20 : callable Tryz.prog 20 = true := by kernel_rfl
theorem cal_21 : callable Tryz.prog 21 = true := by kernel_rfl
theorem cal_22 : callable Tryz.prog 22 = true := by kernel_rfl
theorem cal_23 : callable Tryz.prog 23 = true := by kernel_rfl
theorem cal_24 : callable Tryz.prog 24 = true := by kernel_rfl
theorem fld_51_0 : fieldOff Tryz.prog 51 0 = some 0 := by kernel_rfl
theorem fld_51_1 : fieldOff Tryz.prog 51 1 = some 1 := by kernel_rfl
theorem fld_51_2 : fieldOff Tryz.prog 51 2 = some 2 := by kernel_rfl
theorem ptr_24 : ptrT Tryz.prog 24 = true := by kernel_rfl
theorem ptr_43 : ptrT Tryz.prog 43 = true := by kernel_rfl
theorem scal_4 : scalarB Tryz.prog 4 = true := by kernel_rfl
theorem scal_9 : scalarB Tryz.prog 9 = true := by kernel_rfl
theorem sl_39 : slInfo Tryz.prog 39 = some (51, 3, 40, some (.agg #[(S []), (S []), (.bool false)])) := by kernel_rfl
theorem und_4 : Tryz.prog.underlying 4 = some .bool := by kernel_rfl
theorem zero_51 : (Tryz.prog.info? 51).bind (·.zero) = some (.agg #[(S []), (S []), (.bool false)]) := by kernel_rfl

end Fx
theorem code0 {es : List Pr} {cs : List Ch} (h : codeF es cs = 0) : (if doneF es cs = true then afterE es cs else es) = afterE es cs := by
  cases hd : doneF es cs with
  | true => rfl
  | false =>
    have hd' := of_decide_eq_false hd
    unfold codeF at h
    by_cases hc : cs = []
    · subst hc; rfl
    · by_cases hk : checkF cs = 0
      · rw [if_neg (by simp [hk, hc])] at h
        by_cases hf : 10000 < (afterE es cs).length ∨ 500000 < sumB (afterE es cs)
        · rw [if_pos hf] at h; omega
        · exact absurd ⟨hk, hc, by omega, by omega⟩ hd'
      · rw [if_pos (.inl hk)] at h; exact absurd h hk
theorem codeN {es : List Pr} {cs : List Ch} (h : codeF es cs ≠ 0) : doneF es cs = false := by
  cases hd : doneF es cs with
  | false => rfl
  | true =>
    obtain ⟨hk, hc, h1, h2⟩ := of_decide_eq_true hd
    unfold codeF at h
    rw [if_neg (by simp [hk, hc]), if_neg (by omega)] at h
    exact absurd rfl h
theorem chs_drop {cs : List Ch} {A : Hp} {v : Value} (h : Sl A 3 v cs.length (chs cs)) {k : Nat} (hk : k ≤ cs.length) : Sl A 3 (rsl 3 k cs.length v) (cs.drop k).length (chs (cs.drop k)) := by
  have h1 := h.rsl hk (Nat.le_refl _)
  have e1 : ((chs cs).drop (k * 3)).take ((cs.length - k) * 3) = chs (cs.drop k) := by
    have hf := flatten_drop (css := cs.map chV) chV_len k
    have h2 := flatten_len (css := (cs.map chV)) chV_len
    show List.take _ (List.drop _ (cs.map chV).flatten) = _
    rw [List.take_of_length_le (by rw [List.length_drop, h2, List.length_map]; omega), hf, ← List.map_drop]
  rw [e1] at h1
  simpa using h1
theorem take_all {p : Ch → Prop} {l : List Ch} {j : Nat} {y : Ch} (h : l[j]? = some y) : (∀ z ∈ l.take (j + 1), p z) ↔ (∀ z ∈ l.take j, p z) ∧ p y := by
  rw [List.take_add_one, h]
  simp only [Option.toList_some, List.mem_append, List.mem_singleton]
  exact ⟨fun q => ⟨fun z hz => q z (.inl hz), q y (.inr rfl)⟩, fun q z hz => hz.elim (q.1 z) (fun e => e ▸ q.2)⟩
section
variable {e : Ctx} {w : World} {As : List Hp} {A B : Hp} {v1 v2 kv u v : Value} {first second : List Ch} {keep : List Bool} {tear : Int} {ps qs : List Pr}
theorem same_true (h : ps = qs) (hw : Owns e w As) (hA : Has e As A) (hB : Has e As B) {m n : Nat} (hm : m = ps.length) (hn : n = qs.length) (hl : ps.length ≤ 1000000000) (hv : Sl A 2 v m (prs ps)) (hu : Sl B 2 u n (prs qs)) :
    Calls Tryz.prog 20 #[v, u] w (Ret e fun u Bs => u = .bool true ∧ Bs = As) := by
  have := samePairs hw hA hB hm hn hl hv hu
  rwa [decide_eq_true h] at this
theorem atomic (hG : Glob e) (hE : Kit.HasErr e) (h1 : (first.map chW).sum + (second.map chW).sum ≤ 500000000) (hkl : keep.length ≤ 1000000000) (hv1 : Sl e.base 3 v1 first.length (chs first)) (hv2 : Sl e.base 3 v2 second.length (chs second)) (hk : Sl e.base 1 kv keep.length (keep.map Value.bool)) (hw : Owns e w As) :
    Calls Tryz.prog 4 #[v1, v2, .agg #[kv, .int .i64 tear]] w (Ret e fun u _ => u = .bool true) := by
  have hn2 := len_chW second
  refine enter Tryz.func4 rfl Tryz.ntmps4 hw rfl ?_
  refine Cod.seq ?_
  refine Cod.region ?_
  refine Ops.eff rfl (opE_box rfl) rfl ?_
  rintro _ _ ⟨b5, rfl, rfl⟩
  refine Ops.val (opV_assign rfl) rfl ?_
  refine Ops.nil ?_
  refine Ex.next ?_
  refine Cod.seq ?_
  refine Cod.seq ?_
  refine Cod.region ?_
  refine Ops.call rfl (opC_call Fx.cal_16 rfl (fun w hw => Speak13.speaks hG hE hw)) rfl ?_
  rintro v22 _ ⟨rfl, rfl⟩
  refine Ops.val (opV_not rfl) rfl ?_
  refine Ops.nil ?_
  refine Ex.next ?_
  refine Cod.condF rfl ?_
  refine Cod.skip ?_
  refine Ex.next ?_
  refine Cod.seq ?_
  refine Cod.region ?_
  refine Ops.call rfl (opC_call Fx.cal_17 rfl (fun w hw => opened hG hE hw)) rfl ?_
  rintro v25 _ ⟨d, c, lb, A, DA, rfl, hA, hDA, rfl⟩
  refine Ops.val (opV_move rfl) rfl ?_
  refine Ops.val (opV_extract rfl rfl) rfl ?_
  refine Ops.val (opV_extract rfl rfl) rfl ?_
  refine Ops.val (opV_assign rfl) rfl ?_
  refine Ops.val (opV_assign rfl) rfl ?_
  refine Ops.nil ?_
  refine Ex.next ?_
  refine Cod.seq ?_
  refine Cod.seq ?_
  refine Cod.region ?_
  refine Ops.val (opV_move rfl) rfl ?_
  refine Ops.val (opV_ptrnil Fx.ptr_43 rfl rfl rfl) rfl ?_
  refine Ops.nil ?_
  refine Ex.next ?_
  refine Cod.condF rfl ?_
  refine Cod.skip ?_
  refine Ex.next ?_
  refine Cod.seq ?_
  refine Cod.region ?_
  refine Ops.val (opV_move rfl) rfl ?_
  refine Ops.val (opV_move rfl) rfl ?_
  refine Ops.call rfl (opC_call Fx.cal_18 rfl (fun w hw => commitCI (cs := first) (m := first.length) rfl hG CI.start (by omega) (by omega) hw (A := A) (by repeat (first | exact Pick.hd | apply Pick.tl)) (DA := DA) (by repeat (first | exact Pick.hd | apply Pick.tl)) (by repeat (first | exact Pick.hd | apply Pick.tl)) hA hDA .base hv1)) rfl ?_
  rintro v32 _ ⟨rfl, hist1, size1, Dx, A1, DA1, hCI1, hA1, hDA1, rfl⟩
  generalize hE1 : (if doneF [] first = true then afterE [] first else []) = es1 at hA1 hCI1
  have hel1 := hCI1.el
  refine Ops.nil ?_
  refine Ex.next ?_
  refine Cod.seq ?_
  refine Cod.region ?_
  refine Ops.val (opV_move rfl) rfl ?_
  refine Ops.call rfl (opC_call Fx.cal_19 rfl (fun w hw => pairsCI hCI1 hw (A := A1) (.mem (by repeat (first | exact List.Mem.head _ | apply List.Mem.tail))) hA1)) rfl ?_
  rintro v34 _ ⟨AP1, hAP1, rfl⟩
  obtain ⟨a9, c9, rfl⟩ := hAP1.isSlice
  by_cases hcode : codeF es1 second = 0
  · skip
    refine Ops.val (opV_assign rfl) rfl ?_
    refine Ops.nil ?_
    refine Ex.next ?_
    refine Cod.seq ?_
    refine Cod.region ?_
    refine Ops.val (opV_move rfl) rfl ?_
    refine Ops.val (opV_move rfl) rfl ?_
    refine Ops.call rfl (opC_call Fx.cal_18 rfl (fun w hw => commitCI (cs := second) (m := second.length) rfl hG hCI1 (by omega) (by omega) hw (A := A1) (by repeat (first | exact Pick.hd | apply Pick.tl)) (DA := DA1) (by repeat (first | exact Pick.hd | apply Pick.tl)) (by repeat (first | exact Pick.hd | apply Pick.tl)) hA1 hDA1 .base hv2)) rfl ?_
    rintro v37 _ ⟨rfl, hist2, size2, Dy, A2, DA2, hCI2, hA2, hDA2, rfl⟩
    rw [code0 hcode] at hA2 hCI2
    have hel2 := hCI2.el
    refine Ops.val (opV_assign rfl) rfl ?_
    refine Ops.nil ?_
    refine Ex.next ?_
    refine Cod.seq ?_
    refine Cod.region ?_
    refine Ops.val (opV_move rfl) rfl ?_
    refine Ops.call rfl (opC_call Fx.cal_19 rfl (fun w hw => pairsCI hCI2 hw (A := A2) (.mem (by repeat (first | exact List.Mem.head _ | apply List.Mem.tail))) hA2)) rfl ?_
    rintro v39 _ ⟨AP2, hAP2, rfl⟩
    obtain ⟨a11, c11, rfl⟩ := hAP2.isSlice
    refine Ops.val (opV_assign rfl) rfl ?_
    refine Ops.nil ?_
    refine Ex.next ?_
    refine Cod.seq ?_
    refine Cod.seq ?_
    refine Cod.region ?_
    refine Ops.val (opV_move rfl) rfl ?_
    refine Ops.val (opV_neq rfl rfl (decide_eq_false (by simp [hcode]))) rfl ?_
    refine Ops.val (opV_move rfl) rfl ?_
    refine Ops.skipg rfl rfl ?_
    refine Ops.skipg rfl rfl ?_
    refine Ops.skipg rfl rfl ?_
    refine Ops.skipg rfl rfl ?_
    refine Ops.val (opV_pickF rfl rfl) rfl ?_
    refine Ops.nil ?_
    refine Ex.next ?_
    refine Cod.condF rfl ?_
    refine Cod.skip ?_
    refine Ex.next ?_
    refine Cod.seq ?_
    refine Cod.seq ?_
    refine Cod.region ?_
    refine Ops.val (opV_move rfl) rfl ?_
    refine Ops.val (opV_len Fx.sl_39 rfl hv2.isSlice) rfl ?_
    refine Ops.val (opV_move rfl) rfl ?_
    refine Ops.nil ?_
    refine Ex.next ?_
    refine Cod.block ?_
    refine Cod.loop (X := Nat) (fun i => [(1, v2), (5, .pointer (some ⟨b5, 0, none⟩)), (7, .pointer (some ⟨d, 0, none⟩)), (8, .pointer (some ⟨c, 0, none⟩)), (10, .int .i64 (codeF es1 second)), (11, .slice a11 (pairsOf (afterE es1 second)).length c11), (48, v2), (49, .int .i64 second.length), (50, .int .i64 (i : Int))]) (fun _ => AP2 :: A2 :: DA2 :: logB lb d catB 1 size2 :: AP1 :: [(b5, .cells #[kv, .int .i64 tear] 42)] :: As) (fun i => i ≤ second.length) (fun i => second.length - i) (0) ((Nat.zero_le _)) (by repeat (first | exact trivial | refine ⟨rfl, ?_⟩)) (fun _ h => h.subs (by first | ((repeat (first | exact Sub.refl | exact Sub.nil | apply Sub.emp | (apply Sub.cons; focus ((repeat (first | exact Pick.hd | apply Pick.tl)); done)) | (apply Sub.con; focus ((repeat (first | exact Pick.hd | apply Pick.tl)); done)) | (apply Sub.app; focus ((repeat (first | exact Pick.hd | apply Pick.tl)); done)) | apply Sub.drop)); done) | ((repeat (first | rw [List.append_assoc] | rw [List.cons_append] | rw [List.nil_append] | rw [List.append_nil])); (repeat (first | exact Sub.refl | exact Sub.nil | apply Sub.emp | (apply Sub.cons; focus ((repeat (first | exact Pick.hd | apply Pick.tl)); done)) | (apply Sub.con; focus ((repeat (first | exact Pick.hd | apply Pick.tl)); done)) | (apply Sub.app; focus ((repeat (first | exact Pick.hd | apply Pick.tl)); done)) | apply Sub.drop)); done))) ?_
    rintro i hi
    try dsimp only
    refine Cod.seq ?_
    refine Cod.region ?_
    refine Ops.val (opV_lss rfl rfl (by first | exact decide_eq_true (by omega) | exact decide_eq_false (by omega) | rfl)) rfl ?_
    refine Ops.nil ?_
    refine Ex.next ?_
    refine Cod.seq ?_
    refine Cod.cond rfl (fun hc => ?_) (fun hc => ?_)
    · try simp at hc
      obtain ⟨x, hx⟩ : ∃ x, second[i]? = some x := ⟨_, List.getElem?_eq_getElem (by omega)⟩
      have hs := chs_drop hv2 (k := i + 1) (by omega)
      have hdl : (second.drop (i + 1)).length = second.length - (i + 1) := List.length_drop
      refine Cod.skip ?_
      refine Ex.next ?_
      refine Cod.seq ?_
      refine Cod.block ?_
      refine Cod.seq ?_
      refine Cod.region ?_
      refine Ops.val (opV_move rfl) rfl ?_
      refine Ops.val (opV_indexAddr Fx.sl_39 rfl hv2 (k := i) rfl (by omega)) rfl ?_
      refine Ops.val (opV_loadEA Fx.agg_51 rfl hv2 .base (chs_get hx) rfl (by decide)) rfl ?_
      refine Ops.eff rfl (opE_alloc Fx.zero_51) rfl ?_
      rintro _ _ ⟨b13, rfl, rfl⟩
      refine Ops.val (opV_assign rfl) rfl ?_
      refine Ops.st rfl (opS_storeA Fx.agg_51 rfl rfl rfl (by (try simp only [putAt]); simp only [List.mem_cons, List.not_mem_nil, or_false]; (try simp only [forall_eq_or_imp]); (try simp only [forall_eq]); (repeat' apply And.intro) <;> first | rfl | assumption | exact Row.one (by assumption) | exact Sl.one (by assumption)) rfl (by repeat (first | exact Upd.hd | apply Upd.tl)) rfl) ?_
      refine Ops.nil ?_
      refine Ex.next ?_
      refine Cod.seq ?_
      refine Cod.region ?_
      refine Ops.val (opV_assign rfl) rfl ?_
      refine Ops.nil ?_
      refine Ex.next ?_
      refine Cod.seq ?_
      refine Cod.seq ?_
      refine Cod.region ?_
      refine Ops.val (opV_move rfl) rfl ?_
      refine Ops.val (opV_move rfl) rfl ?_
      refine Ops.val (opV_add64 rfl rfl (by omega)) rfl ?_
      refine Ops.val (opV_slice Fx.sl_39 rfl hv2 (lo' := i + 1) (hi' := second.length) ⟨_, rfl⟩ rfl (by omega) (Nat.le_refl _)) rfl ?_
      refine Ops.val (opV_len Fx.sl_39 rfl hs.isSlice) rfl ?_
      refine Ops.val (opV_move rfl) rfl ?_
      refine Ops.nil ?_
      refine Ex.next ?_
      refine Cod.block ?_
      refine Cod.loop (X := Nat × Bool) (fun (j, bb) => [(1, v2), (5, .pointer (some ⟨b5, 0, none⟩)), (7, .pointer (some ⟨d, 0, none⟩)), (8, .pointer (some ⟨c, 0, none⟩)), (10, .int .i64 (codeF es1 second)), (11, .slice a11 (pairsOf (afterE es1 second)).length c11), (48, v2), (49, .int .i64 second.length), (50, .int .i64 (i : Int)), (13, .pointer (some ⟨b13, 0, none⟩)), (14, .bool bb), (58, rsl 3 (i + 1) second.length v2), (59, .int .i64 (second.drop (i + 1)).length), (60, .int .i64 (j : Int))]) (fun _ => [(b13, .cells #[S x.key, S x.val, .bool x.del] 51)] :: AP2 :: A2 :: DA2 :: logB lb d catB 1 size2 :: AP1 :: [(b5, .cells #[kv, .int .i64 tear] 42)] :: As) (fun (j, bb) => j ≤ (second.drop (i + 1)).length ∧ (bb = true ↔ ∀ y ∈ (second.drop (i + 1)).take j, y.key ≠ x.key)) (fun (j, bb) => (second.drop (i + 1)).length - j) ((0, true)) (⟨Nat.zero_le _, by simp⟩) (by repeat (first | exact trivial | refine ⟨rfl, ?_⟩)) (fun _ h => h.subs (by first | ((repeat (first | exact Sub.refl | exact Sub.nil | apply Sub.emp | (apply Sub.cons; focus ((repeat (first | exact Pick.hd | apply Pick.tl)); done)) | (apply Sub.con; focus ((repeat (first | exact Pick.hd | apply Pick.tl)); done)) | (apply Sub.app; focus ((repeat (first | exact Pick.hd | apply Pick.tl)); done)) | apply Sub.drop)); done) | ((repeat (first | rw [List.append_assoc] | rw [List.cons_append] | rw [List.nil_append] | rw [List.append_nil])); (repeat (first | exact Sub.refl | exact Sub.nil | apply Sub.emp | (apply Sub.cons; focus ((repeat (first | exact Pick.hd | apply Pick.tl)); done)) | (apply Sub.con; focus ((repeat (first | exact Pick.hd | apply Pick.tl)); done)) | (apply Sub.app; focus ((repeat (first | exact Pick.hd | apply Pick.tl)); done)) | apply Sub.drop)); done))) ?_
      rintro ⟨j, bb⟩ ⟨hj, hbb⟩
      try dsimp only
      refine Cod.seq ?_
      refine Cod.region ?_
      refine Ops.val (opV_lss rfl rfl (by first | exact decide_eq_true (by omega) | exact decide_eq_false (by omega) | rfl)) rfl ?_
      refine Ops.nil ?_
      refine Ex.next ?_
      refine Cod.seq ?_
      refine Cod.cond rfl (fun hc2 => ?_) (fun hc2 => ?_)
      · try simp at hc2
        obtain ⟨y, hy⟩ : ∃ y, (second.drop (i + 1))[j]? = some y := ⟨_, List.getElem?_eq_getElem (by omega)⟩
        have hta := take_all (p := fun z => z.key ≠ x.key) hy
        refine Cod.skip ?_
        refine Ex.next ?_
        refine Cod.seq ?_
        refine Cod.block ?_
        refine Cod.seq ?_
        refine Cod.region ?_
        refine Ops.val (opV_indexAddr Fx.sl_39 rfl hs (k := j) rfl (by omega)) rfl ?_
        refine Ops.val (opV_loadEA Fx.agg_51 rfl hs .base (chs_get hy) rfl (by decide)) rfl ?_
        refine Ops.eff rfl (opE_alloc Fx.zero_51) rfl ?_
        rintro _ _ ⟨b16, rfl, rfl⟩
        refine Ops.st rfl (opS_storeA Fx.agg_51 rfl rfl rfl (by (try simp only [putAt]); simp only [List.mem_cons, List.not_mem_nil, or_false]; (try simp only [forall_eq_or_imp]); (try simp only [forall_eq]); (repeat' apply And.intro) <;> first | rfl | assumption | exact Row.one (by assumption) | exact Sl.one (by assumption)) rfl (by repeat (first | exact Upd.hd | apply Upd.tl)) rfl) ?_
        refine Ops.nil ?_
        refine Ex.next ?_
        refine Cod.region ?_
        refine Ops.val (opV_move rfl) rfl ?_
        refine Ops.val (opV_move rfl) rfl ?_
        refine Ops.cases 65 rfl (fun hg => ?_) (fun hg => ?_)
        · skip
          refine Ops.valg rfl (opV_field Fx.fld_51_0 rfl) rfl ?_
          refine Ops.valg rfl (opV_load Fx.scal_9 rfl (by repeat (first | exact Cell.one rfl | assumption | apply Cell.tl))) rfl ?_
          refine Ops.valg rfl (opV_field Fx.fld_51_0 rfl) rfl ?_
          refine Ops.valg rfl (opV_load Fx.scal_9 rfl (by repeat (first | exact Cell.one rfl | assumption | apply Cell.tl))) rfl ?_
          refine Ops.valg rfl (opV_sneq rfl rfl rfl) rfl ?_
          refine Ops.val (opV_pickT rfl rfl) rfl ?_
          refine Ops.val (opV_assign rfl) rfl ?_
          refine Ops.nil ?_
          refine Ex.blockNormal ?_
          refine Ex.next ?_
          refine Cod.region ?_
          refine Ops.val (opV_add64 rfl rfl (by omega)) rfl ?_
          refine Ops.val (opV_move rfl) rfl ?_
          refine Ops.nil ?_
          refine Ex.toN (fun _ _ hs => ⟨(j + 1, decide (y.key ≠ x.key)), ⟨by dsimp only; omega, by dsimp only; rw [hta, ← hbb]; simp [hg]⟩, (by first | omega | (dsimp only; omega) | (simp; omega) | (simp; done)), hs⟩) (by repeat (first | exact trivial | refine ⟨rfl, ?_⟩)) (fun _ h => h.subs (by first | ((repeat (first | exact Sub.refl | exact Sub.nil | apply Sub.emp | (apply Sub.cons; focus ((repeat (first | exact Pick.hd | apply Pick.tl)); done)) | (apply Sub.con; focus ((repeat (first | exact Pick.hd | apply Pick.tl)); done)) | (apply Sub.app; focus ((repeat (first | exact Pick.hd | apply Pick.tl)); done)) | apply Sub.drop)); done) | ((repeat (first | rw [List.append_assoc] | rw [List.cons_append] | rw [List.nil_append] | rw [List.append_nil])); (repeat (first | exact Sub.refl | exact Sub.nil | apply Sub.emp | (apply Sub.cons; focus ((repeat (first | exact Pick.hd | apply Pick.tl)); done)) | (apply Sub.con; focus ((repeat (first | exact Pick.hd | apply Pick.tl)); done)) | (apply Sub.app; focus ((repeat (first | exact Pick.hd | apply Pick.tl)); done)) | apply Sub.drop)); done)))
        · skip
          refine Ops.skipg rfl rfl ?_
          refine Ops.skipg rfl rfl ?_
          refine Ops.skipg rfl rfl ?_
          refine Ops.skipg rfl rfl ?_
          refine Ops.skipg rfl rfl ?_
          refine Ops.val (opV_pickF rfl rfl) rfl ?_
          refine Ops.val (opV_assign rfl) rfl ?_
          refine Ops.nil ?_
          refine Ex.blockNormal ?_
          refine Ex.next ?_
          refine Cod.region ?_
          refine Ops.val (opV_add64 rfl rfl (by omega)) rfl ?_
          refine Ops.val (opV_move rfl) rfl ?_
          refine Ops.nil ?_
          refine Ex.toN (fun _ _ hs => ⟨(j + 1, false), ⟨by dsimp only; omega, by dsimp only; rw [hta, ← hbb]; simp [hg]⟩, (by first | omega | (dsimp only; omega) | (simp; omega) | (simp; done)), hs⟩) (by repeat (first | exact trivial | refine ⟨rfl, ?_⟩)) (fun _ h => h.subs (by first | ((repeat (first | exact Sub.refl | exact Sub.nil | apply Sub.emp | (apply Sub.cons; focus ((repeat (first | exact Pick.hd | apply Pick.tl)); done)) | (apply Sub.con; focus ((repeat (first | exact Pick.hd | apply Pick.tl)); done)) | (apply Sub.app; focus ((repeat (first | exact Pick.hd | apply Pick.tl)); done)) | apply Sub.drop)); done) | ((repeat (first | rw [List.append_assoc] | rw [List.cons_append] | rw [List.nil_append] | rw [List.append_nil])); (repeat (first | exact Sub.refl | exact Sub.nil | apply Sub.emp | (apply Sub.cons; focus ((repeat (first | exact Pick.hd | apply Pick.tl)); done)) | (apply Sub.con; focus ((repeat (first | exact Pick.hd | apply Pick.tl)); done)) | (apply Sub.app; focus ((repeat (first | exact Pick.hd | apply Pick.tl)); done)) | apply Sub.drop)); done)))
      · try simp at hc2
        obtain rfl : j = (second.drop (i + 1)).length := by omega
        rw [List.take_length] at hbb
        by_cases hl : bb = true
        · skip
          subst hl
          have hlk := after_last hCI1.nd hx (hbb.1 rfl)
          cases hxd : x.del
          · skip
            refine Cod.exit ?_
            refine Ex.thenExit ?_
            refine Ex.thenExit ?_
            refine Ex.blockHit ?_
            refine Ex.next ?_
            refine Cod.seq ?_
            refine Cod.region ?_
            refine Ops.val (opV_move rfl) rfl ?_
            refine Ops.val (opV_field Fx.fld_51_0 rfl) rfl ?_
            refine Ops.val (opV_load Fx.scal_9 rfl (by repeat (first | exact Cell.one rfl | assumption | apply Cell.tl))) rfl ?_
            refine Ops.call rfl (opC_call Fx.cal_21 rfl (fun w hw => get_spec (key := x.key) hw (A := A2) (.mem (by repeat (first | exact List.Mem.head _ | apply List.Mem.tail))) hA2)) rfl ?_
            rintro v77 _ ⟨rfl, rfl⟩
            rw [hxd] at hlk
            rw [hlk]
            refine Ops.val (opV_move rfl) rfl ?_
            refine Ops.val (opV_extract rfl rfl) rfl ?_
            refine Ops.val (opV_extract rfl rfl) rfl ?_
            refine Ops.val (opV_assign rfl) rfl ?_
            refine Ops.val (opV_assign rfl) rfl ?_
            refine Ops.nil ?_
            refine Ex.next ?_
            refine Cod.seq ?_
            refine Cod.region ?_
            refine Ops.val (opV_move rfl) rfl ?_
            refine Ops.val (opV_eql rfl rfl (decide_eq_true hcode)) rfl ?_
            refine Ops.val (opV_move rfl) rfl ?_
            refine Ops.valg rfl (opV_move rfl) rfl ?_
            refine Ops.val (opV_pickT rfl rfl) rfl ?_
            refine Ops.val (opV_move rfl) rfl ?_
            refine Ops.valg rfl (opV_move rfl) rfl ?_
            refine Ops.valg rfl (opV_field Fx.fld_51_2 rfl) rfl ?_
            refine Ops.valg rfl (opV_load Fx.scal_4 rfl (by repeat (first | exact Cell.one rfl | assumption | apply Cell.tl))) rfl ?_
            refine Ops.valg rfl (opV_beql Fx.und_4 rfl rfl rfl) rfl ?_
            refine Ops.valg rfl (opV_move rfl) rfl ?_
            refine Ops.valg rfl (opV_move rfl) rfl ?_
            refine Ops.valg rfl (opV_move rfl) rfl ?_
            refine Ops.valg rfl (opV_move rfl) rfl ?_
            refine Ops.valg rfl (opV_field Fx.fld_51_1 rfl) rfl ?_
            refine Ops.valg rfl (opV_load Fx.scal_9 rfl (by repeat (first | exact Cell.one rfl | assumption | apply Cell.tl))) rfl ?_
            refine Ops.valg rfl (opV_sneq rfl rfl (decide_eq_false (by simp))) rfl ?_
            refine Ops.valg rfl (opV_pickT rfl rfl) rfl ?_
            refine Ops.valg rfl (opV_pickF rfl rfl) rfl ?_
            refine Ops.val (opV_pickT rfl rfl) rfl ?_
            refine Ops.nil ?_
            refine Ex.next ?_
            refine Cod.condF rfl ?_
            refine Cod.skip ?_
            refine Ex.blockNormal ?_
            refine Ex.next ?_
            refine Cod.region ?_
            refine Ops.val (opV_add64 rfl rfl (by omega)) rfl ?_
            refine Ops.val (opV_move rfl) rfl ?_
            refine Ops.nil ?_
            refine Ex.toN (fun _ _ hs => ⟨i + 1, (by omega), (by first | omega | (dsimp only; omega) | (simp; omega) | (simp; done)), hs⟩) (by repeat (first | exact trivial | refine ⟨rfl, ?_⟩)) (fun _ h => h.subs (by first | ((repeat (first | exact Sub.refl | exact Sub.nil | apply Sub.emp | (apply Sub.cons; focus ((repeat (first | exact Pick.hd | apply Pick.tl)); done)) | (apply Sub.con; focus ((repeat (first | exact Pick.hd | apply Pick.tl)); done)) | (apply Sub.app; focus ((repeat (first | exact Pick.hd | apply Pick.tl)); done)) | apply Sub.drop)); done) | ((repeat (first | rw [List.append_assoc] | rw [List.cons_append] | rw [List.nil_append] | rw [List.append_nil])); (repeat (first | exact Sub.refl | exact Sub.nil | apply Sub.emp | (apply Sub.cons; focus ((repeat (first | exact Pick.hd | apply Pick.tl)); done)) | (apply Sub.con; focus ((repeat (first | exact Pick.hd | apply Pick.tl)); done)) | (apply Sub.app; focus ((repeat (first | exact Pick.hd | apply Pick.tl)); done)) | apply Sub.drop)); done)))
          · skip
            refine Cod.exit ?_
            refine Ex.thenExit ?_
            refine Ex.thenExit ?_
            refine Ex.blockHit ?_
            refine Ex.next ?_
            refine Cod.seq ?_
            refine Cod.region ?_
            refine Ops.val (opV_move rfl) rfl ?_
            refine Ops.val (opV_field Fx.fld_51_0 rfl) rfl ?_
            refine Ops.val (opV_load Fx.scal_9 rfl (by repeat (first | exact Cell.one rfl | assumption | apply Cell.tl))) rfl ?_
            refine Ops.call rfl (opC_call Fx.cal_21 rfl (fun w hw => get_spec (key := x.key) hw (A := A2) (.mem (by repeat (first | exact List.Mem.head _ | apply List.Mem.tail))) hA2)) rfl ?_
            rintro v77 _ ⟨rfl, rfl⟩
            rw [hxd] at hlk
            rw [hlk]
            refine Ops.val (opV_move rfl) rfl ?_
            refine Ops.val (opV_extract rfl rfl) rfl ?_
            refine Ops.val (opV_extract rfl rfl) rfl ?_
            refine Ops.val (opV_assign rfl) rfl ?_
            refine Ops.val (opV_assign rfl) rfl ?_
            refine Ops.nil ?_
            refine Ex.next ?_
            refine Cod.seq ?_
            refine Cod.region ?_
            refine Ops.val (opV_move rfl) rfl ?_
            refine Ops.val (opV_eql rfl rfl (decide_eq_true hcode)) rfl ?_
            refine Ops.val (opV_move rfl) rfl ?_
            refine Ops.valg rfl (opV_move rfl) rfl ?_
            refine Ops.val (opV_pickT rfl rfl) rfl ?_
            refine Ops.val (opV_move rfl) rfl ?_
            refine Ops.valg rfl (opV_move rfl) rfl ?_
            refine Ops.valg rfl (opV_field Fx.fld_51_2 rfl) rfl ?_
            refine Ops.valg rfl (opV_load Fx.scal_4 rfl (by repeat (first | exact Cell.one rfl | assumption | apply Cell.tl))) rfl ?_
            refine Ops.valg rfl (opV_beql Fx.und_4 rfl rfl rfl) rfl ?_
            refine Ops.valg rfl (opV_move rfl) rfl ?_
            refine Ops.valg rfl (opV_move rfl) rfl ?_
            refine Ops.valg rfl (opV_move rfl) rfl ?_
            refine Ops.skipg rfl rfl ?_
            refine Ops.skipg rfl rfl ?_
            refine Ops.skipg rfl rfl ?_
            refine Ops.skipg rfl rfl ?_
            refine Ops.valg rfl (opV_pickF rfl rfl) rfl ?_
            refine Ops.valg rfl (opV_pickF rfl rfl) rfl ?_
            refine Ops.val (opV_pickT rfl rfl) rfl ?_
            refine Ops.nil ?_
            refine Ex.next ?_
            refine Cod.condF rfl ?_
            refine Cod.skip ?_
            refine Ex.blockNormal ?_
            refine Ex.next ?_
            refine Cod.region ?_
            refine Ops.val (opV_add64 rfl rfl (by omega)) rfl ?_
            refine Ops.val (opV_move rfl) rfl ?_
            refine Ops.nil ?_
            refine Ex.toN (fun _ _ hs => ⟨i + 1, (by omega), (by first | omega | (dsimp only; omega) | (simp; omega) | (simp; done)), hs⟩) (by repeat (first | exact trivial | refine ⟨rfl, ?_⟩)) (fun _ h => h.subs (by first | ((repeat (first | exact Sub.refl | exact Sub.nil | apply Sub.emp | (apply Sub.cons; focus ((repeat (first | exact Pick.hd | apply Pick.tl)); done)) | (apply Sub.con; focus ((repeat (first | exact Pick.hd | apply Pick.tl)); done)) | (apply Sub.app; focus ((repeat (first | exact Pick.hd | apply Pick.tl)); done)) | apply Sub.drop)); done) | ((repeat (first | rw [List.append_assoc] | rw [List.cons_append] | rw [List.nil_append] | rw [List.append_nil])); (repeat (first | exact Sub.refl | exact Sub.nil | apply Sub.emp | (apply Sub.cons; focus ((repeat (first | exact Pick.hd | apply Pick.tl)); done)) | (apply Sub.con; focus ((repeat (first | exact Pick.hd | apply Pick.tl)); done)) | (apply Sub.app; focus ((repeat (first | exact Pick.hd | apply Pick.tl)); done)) | apply Sub.drop)); done)))
        · skip
          obtain rfl : bb = false := by simpa using hl
          refine Cod.exit ?_
          refine Ex.thenExit ?_
          refine Ex.thenExit ?_
          refine Ex.blockHit ?_
          refine Ex.next ?_
          refine Cod.seq ?_
          refine Cod.region ?_
          refine Ops.val (opV_move rfl) rfl ?_
          refine Ops.val (opV_field Fx.fld_51_0 rfl) rfl ?_
          refine Ops.val (opV_load Fx.scal_9 rfl (by repeat (first | exact Cell.one rfl | assumption | apply Cell.tl))) rfl ?_
          refine Ops.call rfl (opC_call Fx.cal_21 rfl (fun w hw => get_spec (key := x.key) hw (A := A2) (.mem (by repeat (first | exact List.Mem.head _ | apply List.Mem.tail))) hA2)) rfl ?_
          rintro v77 _ ⟨rfl, rfl⟩
          refine Ops.val (opV_move rfl) rfl ?_
          refine Ops.val (opV_extract rfl rfl) rfl ?_
          refine Ops.val (opV_extract rfl rfl) rfl ?_
          refine Ops.val (opV_assign rfl) rfl ?_
          refine Ops.val (opV_assign rfl) rfl ?_
          refine Ops.nil ?_
          refine Ex.next ?_
          refine Cod.seq ?_
          refine Cod.region ?_
          refine Ops.val (opV_move rfl) rfl ?_
          refine Ops.val (opV_eql rfl rfl (decide_eq_true hcode)) rfl ?_
          refine Ops.val (opV_move rfl) rfl ?_
          refine Ops.valg rfl (opV_move rfl) rfl ?_
          refine Ops.val (opV_pickT rfl rfl) rfl ?_
          refine Ops.val (opV_move rfl) rfl ?_
          refine Ops.skipg rfl rfl ?_
          refine Ops.skipg rfl rfl ?_
          refine Ops.skipg rfl rfl ?_
          refine Ops.skipg rfl rfl ?_
          refine Ops.skipg rfl rfl ?_
          refine Ops.skipg rfl rfl ?_
          refine Ops.skipg rfl rfl ?_
          refine Ops.skipg rfl rfl ?_
          refine Ops.skipg rfl rfl ?_
          refine Ops.skipg rfl rfl ?_
          refine Ops.skipg rfl rfl ?_
          refine Ops.skipg rfl rfl ?_
          refine Ops.skipg rfl rfl ?_
          refine Ops.val (opV_pickF rfl rfl) rfl ?_
          refine Ops.nil ?_
          refine Ex.next ?_
          refine Cod.condF rfl ?_
          refine Cod.skip ?_
          refine Ex.blockNormal ?_
          refine Ex.next ?_
          refine Cod.region ?_
          refine Ops.val (opV_add64 rfl rfl (by omega)) rfl ?_
          refine Ops.val (opV_move rfl) rfl ?_
          refine Ops.nil ?_
          refine Ex.toN (fun _ _ hs => ⟨i + 1, (by omega), (by first | omega | (dsimp only; omega) | (simp; omega) | (simp; done)), hs⟩) (by repeat (first | exact trivial | refine ⟨rfl, ?_⟩)) (fun _ h => h.subs (by first | ((repeat (first | exact Sub.refl | exact Sub.nil | apply Sub.emp | (apply Sub.cons; focus ((repeat (first | exact Pick.hd | apply Pick.tl)); done)) | (apply Sub.con; focus ((repeat (first | exact Pick.hd | apply Pick.tl)); done)) | (apply Sub.app; focus ((repeat (first | exact Pick.hd | apply Pick.tl)); done)) | apply Sub.drop)); done) | ((repeat (first | rw [List.append_assoc] | rw [List.cons_append] | rw [List.nil_append] | rw [List.append_nil])); (repeat (first | exact Sub.refl | exact Sub.nil | apply Sub.emp | (apply Sub.cons; focus ((repeat (first | exact Pick.hd | apply Pick.tl)); done)) | (apply Sub.con; focus ((repeat (first | exact Pick.hd | apply Pick.tl)); done)) | (apply Sub.app; focus ((repeat (first | exact Pick.hd | apply Pick.tl)); done)) | apply Sub.drop)); done)))
    · try simp at hc
      obtain rfl : i = second.length := by omega
      refine Cod.exit ?_
      refine Ex.thenExit ?_
      refine Ex.thenExit ?_
      refine Ex.blockHit ?_
      refine Ex.next ?_
      refine Cod.seq ?_
      refine Cod.region ?_
      refine Ops.val (opV_move rfl) rfl ?_
      refine Ops.val (opV_loadW Fx.agg_42 rfl (.mem (by repeat (first | exact List.Mem.head _ | apply List.Mem.tail))) (List.Mem.head _) rfl) rfl ?_
      refine Ops.call rfl (opC_call Fx.cal_23 rfl (fun w hw => crashCI (keep := keep) (kn := keep.length) (tear := tear) hCI2 (by omega) (by omega) rfl hkl hw (DA := DA2) (.mem (by repeat (first | exact List.Mem.head _ | apply List.Mem.tail))) hDA2 (KA := e.base) .base hk)) rfl ?_
      rintro v104 _ ⟨vs, AC, LA, hAC, hLA, rfl⟩
      obtain ⟨a104, c104, rfl⟩ := hAC.isSlice
      refine Ops.call rfl (opC_call Fx.cal_22 rfl (fun w hw => openCI hCI2 (by omega) (by omega) hw (A := AC) (.mem (by repeat (first | exact List.Mem.head _ | apply List.Mem.tail))) (B := LA) (.mem (by repeat (first | exact List.Mem.head _ | apply List.Mem.tail))) hAC.sl hLA)) rfl ?_
      rintro v105 _ ⟨p, DN, rfl, hDN, rfl⟩
      refine Ops.val (opV_move rfl) rfl ?_
      refine Ops.val (opV_extract rfl rfl) rfl ?_
      refine Ops.val (opV_extract rfl rfl) rfl ?_
      refine Ops.val (opV_assign rfl) rfl ?_
      refine Ops.val (opV_assign rfl) rfl ?_
      refine Ops.nil ?_
      refine Ex.next ?_
      refine Cod.seq ?_
      refine Cod.seq ?_
      refine Cod.region ?_
      refine Ops.val (opV_move rfl) rfl ?_
      refine Ops.val (opV_ptrnil Fx.ptr_24 rfl rfl rfl) rfl ?_
      refine Ops.nil ?_
      refine Ex.next ?_
      refine Cod.condF rfl ?_
      refine Cod.skip ?_
      refine Ex.next ?_
      refine Cod.seq ?_
      refine Cod.region ?_
      refine Ops.val (opV_move rfl) rfl ?_
      refine Ops.call rfl (opC_call Fx.cal_24 rfl (fun w hw => catOpenCI hG hE hCI2 (by omega) (by omega) hw (DA := DN) (by repeat (first | exact Pick.hd | apply Pick.tl)) hDN)) rfl ?_
      rintro v112 _ ⟨cN, lN, AN, DA3, rfl, hAN, hDA3, rfl⟩
      refine Ops.val (opV_move rfl) rfl ?_
      refine Ops.val (opV_extract rfl rfl) rfl ?_
      refine Ops.val (opV_extract rfl rfl) rfl ?_
      refine Ops.val (opV_assign rfl) rfl ?_
      refine Ops.val (opV_assign rfl) rfl ?_
      refine Ops.nil ?_
      refine Ex.next ?_
      refine Cod.seq ?_
      refine Cod.region ?_
      refine Ops.val (opV_move rfl) rfl ?_
      refine Ops.val (opV_ptrnnil Fx.ptr_43 rfl rfl rfl) rfl ?_
      refine Ops.val (opV_move rfl) rfl ?_
      refine Ops.valg rfl (opV_move rfl) rfl ?_
      refine Ops.valg rfl (opV_eql rfl rfl rfl) rfl ?_
      refine Ops.val (opV_pickT rfl rfl) rfl ?_
      refine Ops.val (opV_move rfl) rfl ?_
      refine Ops.valg rfl (opV_move rfl) rfl ?_
      refine Ops.call rfl (opC_call Fx.cal_19 rfl (fun w hw => pairsCI hCI2.anew hw (A := AN) (.mem (by repeat (first | exact List.Mem.head _ | apply List.Mem.tail))) hAN)) rfl ?_
      rintro v123 _ ⟨AP3, hAP3, rfl⟩
      refine Ops.valg rfl (opV_move rfl) rfl ?_
      refine Ops.call rfl (opC_call Fx.cal_20 rfl (fun w hw => same_true hCI2.pairs hw (A := AP3) (.mem (by repeat (first | exact List.Mem.head _ | apply List.Mem.tail))) (B := AP2) (.mem (by repeat (first | exact List.Mem.head _ | apply List.Mem.tail))) rfl rfl (by rw [pairs_len]; have := hCI2.anew.el; omega) hAP3.sl hAP2.sl)) rfl ?_
      rintro v125 _ ⟨rfl, rfl⟩
      refine Ops.val (opV_pickT rfl rfl) rfl ?_
      refine Ops.val (opV_assign rfl) rfl ?_
      refine Ops.nil ?_
      refine Ex.next ?_
      refine Cod.ret ?_
      exact Ex.ret1 rfl rfl (fun _ h => h.subs (by first | ((repeat (first | exact Sub.refl | exact Sub.nil | apply Sub.emp | (apply Sub.cons; focus ((repeat (first | exact Pick.hd | apply Pick.tl)); done)) | (apply Sub.con; focus ((repeat (first | exact Pick.hd | apply Pick.tl)); done)) | (apply Sub.app; focus ((repeat (first | exact Pick.hd | apply Pick.tl)); done)) | apply Sub.drop)); done) | ((repeat (first | rw [List.append_assoc] | rw [List.cons_append] | rw [List.nil_append] | rw [List.append_nil])); (repeat (first | exact Sub.refl | exact Sub.nil | apply Sub.emp | (apply Sub.cons; focus ((repeat (first | exact Pick.hd | apply Pick.tl)); done)) | (apply Sub.con; focus ((repeat (first | exact Pick.hd | apply Pick.tl)); done)) | (apply Sub.app; focus ((repeat (first | exact Pick.hd | apply Pick.tl)); done)) | apply Sub.drop)); done))) rfl
  · skip
    refine Ops.val (opV_assign rfl) rfl ?_
    refine Ops.nil ?_
    refine Ex.next ?_
    refine Cod.seq ?_
    refine Cod.region ?_
    refine Ops.val (opV_move rfl) rfl ?_
    refine Ops.val (opV_move rfl) rfl ?_
    refine Ops.call rfl (opC_call Fx.cal_18 rfl (fun w hw => commitCI (cs := second) (m := second.length) rfl hG hCI1 (by omega) (by omega) hw (A := A1) (by repeat (first | exact Pick.hd | apply Pick.tl)) (DA := DA1) (by repeat (first | exact Pick.hd | apply Pick.tl)) (by repeat (first | exact Pick.hd | apply Pick.tl)) hA1 hDA1 .base hv2)) rfl ?_
    rintro v37 _ ⟨rfl, hist2, size2, Dy, A2, DA2, hCI2, hA2, hDA2, rfl⟩
    rw [if_neg (by rw [codeN hcode]; decide)] at hA2 hCI2
    have hel2 := hCI2.el
    refine Ops.val (opV_assign rfl) rfl ?_
    refine Ops.nil ?_
    refine Ex.next ?_
    refine Cod.seq ?_
    refine Cod.region ?_
    refine Ops.val (opV_move rfl) rfl ?_
    refine Ops.call rfl (opC_call Fx.cal_19 rfl (fun w hw => pairsCI hCI2 hw (A := A2) (.mem (by repeat (first | exact List.Mem.head _ | apply List.Mem.tail))) hA2)) rfl ?_
    rintro v39 _ ⟨AP2, hAP2, rfl⟩
    obtain ⟨a11, c11, rfl⟩ := hAP2.isSlice
    refine Ops.val (opV_assign rfl) rfl ?_
    refine Ops.nil ?_
    refine Ex.next ?_
    refine Cod.seq ?_
    refine Cod.seq ?_
    refine Cod.region ?_
    refine Ops.val (opV_move rfl) rfl ?_
    refine Ops.val (opV_neq rfl rfl (decide_eq_true hcode)) rfl ?_
    refine Ops.val (opV_move rfl) rfl ?_
    refine Ops.valg rfl (opV_move rfl) rfl ?_
    refine Ops.valg rfl (opV_move rfl) rfl ?_
    refine Ops.call rfl (opC_call Fx.cal_20 rfl (fun w hw => same_true rfl hw (A := AP1) (.mem (by repeat (first | exact List.Mem.head _ | apply List.Mem.tail))) (B := AP2) (.mem (by repeat (first | exact List.Mem.head _ | apply List.Mem.tail))) rfl rfl (by rw [pairs_len]; omega) hAP1.sl hAP2.sl)) rfl ?_
    rintro v45 _ ⟨rfl, rfl⟩
    refine Ops.valg rfl (opV_not rfl) rfl ?_
    refine Ops.val (opV_pickT rfl rfl) rfl ?_
    refine Ops.nil ?_
    refine Ex.next ?_
    refine Cod.condF rfl ?_
    refine Cod.skip ?_
    refine Ex.next ?_
    refine Cod.seq ?_
    refine Cod.seq ?_
    refine Cod.region ?_
    refine Ops.val (opV_move rfl) rfl ?_
    refine Ops.val (opV_len Fx.sl_39 rfl hv2.isSlice) rfl ?_
    refine Ops.val (opV_move rfl) rfl ?_
    refine Ops.nil ?_
    refine Ex.next ?_
    refine Cod.block ?_
    refine Cod.loop (X := Nat) (fun i => [(1, v2), (5, .pointer (some ⟨b5, 0, none⟩)), (7, .pointer (some ⟨d, 0, none⟩)), (8, .pointer (some ⟨c, 0, none⟩)), (10, .int .i64 (codeF es1 second)), (11, .slice a11 (pairsOf es1).length c11), (48, v2), (49, .int .i64 second.length), (50, .int .i64 (i : Int))]) (fun _ => AP2 :: A2 :: DA2 :: logB lb d catB 1 size2 :: AP1 :: [(b5, .cells #[kv, .int .i64 tear] 42)] :: As) (fun i => i ≤ second.length) (fun i => second.length - i) (0) ((Nat.zero_le _)) (by repeat (first | exact trivial | refine ⟨rfl, ?_⟩)) (fun _ h => h.subs (by first | ((repeat (first | exact Sub.refl | exact Sub.nil | apply Sub.emp | (apply Sub.cons; focus ((repeat (first | exact Pick.hd | apply Pick.tl)); done)) | (apply Sub.con; focus ((repeat (first | exact Pick.hd | apply Pick.tl)); done)) | (apply Sub.app; focus ((repeat (first | exact Pick.hd | apply Pick.tl)); done)) | apply Sub.drop)); done) | ((repeat (first | rw [List.append_assoc] | rw [List.cons_append] | rw [List.nil_append] | rw [List.append_nil])); (repeat (first | exact Sub.refl | exact Sub.nil | apply Sub.emp | (apply Sub.cons; focus ((repeat (first | exact Pick.hd | apply Pick.tl)); done)) | (apply Sub.con; focus ((repeat (first | exact Pick.hd | apply Pick.tl)); done)) | (apply Sub.app; focus ((repeat (first | exact Pick.hd | apply Pick.tl)); done)) | apply Sub.drop)); done))) ?_
    rintro i hi
    try dsimp only
    refine Cod.seq ?_
    refine Cod.region ?_
    refine Ops.val (opV_lss rfl rfl (by first | exact decide_eq_true (by omega) | exact decide_eq_false (by omega) | rfl)) rfl ?_
    refine Ops.nil ?_
    refine Ex.next ?_
    refine Cod.seq ?_
    refine Cod.cond rfl (fun hc => ?_) (fun hc => ?_)
    · try simp at hc
      obtain ⟨x, hx⟩ : ∃ x, second[i]? = some x := ⟨_, List.getElem?_eq_getElem (by omega)⟩
      have hs := chs_drop hv2 (k := i + 1) (by omega)
      have hdl : (second.drop (i + 1)).length = second.length - (i + 1) := List.length_drop
      refine Cod.skip ?_
      refine Ex.next ?_
      refine Cod.seq ?_
      refine Cod.block ?_
      refine Cod.seq ?_
      refine Cod.region ?_
      refine Ops.val (opV_move rfl) rfl ?_
      refine Ops.val (opV_indexAddr Fx.sl_39 rfl hv2 (k := i) rfl (by omega)) rfl ?_
      refine Ops.val (opV_loadEA Fx.agg_51 rfl hv2 .base (chs_get hx) rfl (by decide)) rfl ?_
      refine Ops.eff rfl (opE_alloc Fx.zero_51) rfl ?_
      rintro _ _ ⟨b13, rfl, rfl⟩
      refine Ops.val (opV_assign rfl) rfl ?_
      refine Ops.st rfl (opS_storeA Fx.agg_51 rfl rfl rfl (by (try simp only [putAt]); simp only [List.mem_cons, List.not_mem_nil, or_false]; (try simp only [forall_eq_or_imp]); (try simp only [forall_eq]); (repeat' apply And.intro) <;> first | rfl | assumption | exact Row.one (by assumption) | exact Sl.one (by assumption)) rfl (by repeat (first | exact Upd.hd | apply Upd.tl)) rfl) ?_
      refine Ops.nil ?_
      refine Ex.next ?_
      refine Cod.seq ?_
      refine Cod.region ?_
      refine Ops.val (opV_assign rfl) rfl ?_
      refine Ops.nil ?_
      refine Ex.next ?_
      refine Cod.seq ?_
      refine Cod.seq ?_
      refine Cod.region ?_
      refine Ops.val (opV_move rfl) rfl ?_
      refine Ops.val (opV_move rfl) rfl ?_
      refine Ops.val (opV_add64 rfl rfl (by omega)) rfl ?_
      refine Ops.val (opV_slice Fx.sl_39 rfl hv2 (lo' := i + 1) (hi' := second.length) ⟨_, rfl⟩ rfl (by omega) (Nat.le_refl _)) rfl ?_
      refine Ops.val (opV_len Fx.sl_39 rfl hs.isSlice) rfl ?_
      refine Ops.val (opV_move rfl) rfl ?_
      refine Ops.nil ?_
      refine Ex.next ?_
      refine Cod.block ?_
      refine Cod.loop (X := Nat × Bool) (fun (j, bb) => [(1, v2), (5, .pointer (some ⟨b5, 0, none⟩)), (7, .pointer (some ⟨d, 0, none⟩)), (8, .pointer (some ⟨c, 0, none⟩)), (10, .int .i64 (codeF es1 second)), (11, .slice a11 (pairsOf es1).length c11), (48, v2), (49, .int .i64 second.length), (50, .int .i64 (i : Int)), (13, .pointer (some ⟨b13, 0, none⟩)), (14, .bool bb), (58, rsl 3 (i + 1) second.length v2), (59, .int .i64 (second.drop (i + 1)).length), (60, .int .i64 (j : Int))]) (fun _ => [(b13, .cells #[S x.key, S x.val, .bool x.del] 51)] :: AP2 :: A2 :: DA2 :: logB lb d catB 1 size2 :: AP1 :: [(b5, .cells #[kv, .int .i64 tear] 42)] :: As) (fun (j, bb) => j ≤ (second.drop (i + 1)).length ∧ (bb = true ↔ ∀ y ∈ (second.drop (i + 1)).take j, y.key ≠ x.key)) (fun (j, bb) => (second.drop (i + 1)).length - j) ((0, true)) (⟨Nat.zero_le _, by simp⟩) (by repeat (first | exact trivial | refine ⟨rfl, ?_⟩)) (fun _ h => h.subs (by first | ((repeat (first | exact Sub.refl | exact Sub.nil | apply Sub.emp | (apply Sub.cons; focus ((repeat (first | exact Pick.hd | apply Pick.tl)); done)) | (apply Sub.con; focus ((repeat (first | exact Pick.hd | apply Pick.tl)); done)) | (apply Sub.app; focus ((repeat (first | exact Pick.hd | apply Pick.tl)); done)) | apply Sub.drop)); done) | ((repeat (first | rw [List.append_assoc] | rw [List.cons_append] | rw [List.nil_append] | rw [List.append_nil])); (repeat (first | exact Sub.refl | exact Sub.nil | apply Sub.emp | (apply Sub.cons; focus ((repeat (first | exact Pick.hd | apply Pick.tl)); done)) | (apply Sub.con; focus ((repeat (first | exact Pick.hd | apply Pick.tl)); done)) | (apply Sub.app; focus ((repeat (first | exact Pick.hd | apply Pick.tl)); done)) | apply Sub.drop)); done))) ?_
      rintro ⟨j, bb⟩ ⟨hj, hbb⟩
      try dsimp only
      refine Cod.seq ?_
      refine Cod.region ?_
      refine Ops.val (opV_lss rfl rfl (by first | exact decide_eq_true (by omega) | exact decide_eq_false (by omega) | rfl)) rfl ?_
      refine Ops.nil ?_
      refine Ex.next ?_
      refine Cod.seq ?_
      refine Cod.cond rfl (fun hc2 => ?_) (fun hc2 => ?_)
      · try simp at hc2
        obtain ⟨y, hy⟩ : ∃ y, (second.drop (i + 1))[j]? = some y := ⟨_, List.getElem?_eq_getElem (by omega)⟩
        have hta := take_all (p := fun z => z.key ≠ x.key) hy
        refine Cod.skip ?_
        refine Ex.next ?_
        refine Cod.seq ?_
        refine Cod.block ?_
        refine Cod.seq ?_
        refine Cod.region ?_
        refine Ops.val (opV_indexAddr Fx.sl_39 rfl hs (k := j) rfl (by omega)) rfl ?_
        refine Ops.val (opV_loadEA Fx.agg_51 rfl hs .base (chs_get hy) rfl (by decide)) rfl ?_
        refine Ops.eff rfl (opE_alloc Fx.zero_51) rfl ?_
        rintro _ _ ⟨b16, rfl, rfl⟩
        refine Ops.st rfl (opS_storeA Fx.agg_51 rfl rfl rfl (by (try simp only [putAt]); simp only [List.mem_cons, List.not_mem_nil, or_false]; (try simp only [forall_eq_or_imp]); (try simp only [forall_eq]); (repeat' apply And.intro) <;> first | rfl | assumption | exact Row.one (by assumption) | exact Sl.one (by assumption)) rfl (by repeat (first | exact Upd.hd | apply Upd.tl)) rfl) ?_
        refine Ops.nil ?_
        refine Ex.next ?_
        refine Cod.region ?_
        refine Ops.val (opV_move rfl) rfl ?_
        refine Ops.val (opV_move rfl) rfl ?_
        refine Ops.cases 65 rfl (fun hg => ?_) (fun hg => ?_)
        · skip
          refine Ops.valg rfl (opV_field Fx.fld_51_0 rfl) rfl ?_
          refine Ops.valg rfl (opV_load Fx.scal_9 rfl (by repeat (first | exact Cell.one rfl | assumption | apply Cell.tl))) rfl ?_
          refine Ops.valg rfl (opV_field Fx.fld_51_0 rfl) rfl ?_
          refine Ops.valg rfl (opV_load Fx.scal_9 rfl (by repeat (first | exact Cell.one rfl | assumption | apply Cell.tl))) rfl ?_
          refine Ops.valg rfl (opV_sneq rfl rfl rfl) rfl ?_
          refine Ops.val (opV_pickT rfl rfl) rfl ?_
          refine Ops.val (opV_assign rfl) rfl ?_
          refine Ops.nil ?_
          refine Ex.blockNormal ?_
          refine Ex.next ?_
          refine Cod.region ?_
          refine Ops.val (opV_add64 rfl rfl (by omega)) rfl ?_
          refine Ops.val (opV_move rfl) rfl ?_
          refine Ops.nil ?_
          refine Ex.toN (fun _ _ hs => ⟨(j + 1, decide (y.key ≠ x.key)), ⟨by dsimp only; omega, by dsimp only; rw [hta, ← hbb]; simp [hg]⟩, (by first | omega | (dsimp only; omega) | (simp; omega) | (simp; done)), hs⟩) (by repeat (first | exact trivial | refine ⟨rfl, ?_⟩)) (fun _ h => h.subs (by first | ((repeat (first | exact Sub.refl | exact Sub.nil | apply Sub.emp | (apply Sub.cons; focus ((repeat (first | exact Pick.hd | apply Pick.tl)); done)) | (apply Sub.con; focus ((repeat (first | exact Pick.hd | apply Pick.tl)); done)) | (apply Sub.app; focus ((repeat (first | exact Pick.hd | apply Pick.tl)); done)) | apply Sub.drop)); done) | ((repeat (first | rw [List.append_assoc] | rw [List.cons_append] | rw [List.nil_append] | rw [List.append_nil])); (repeat (first | exact Sub.refl | exact Sub.nil | apply Sub.emp | (apply Sub.cons; focus ((repeat (first | exact Pick.hd | apply Pick.tl)); done)) | (apply Sub.con; focus ((repeat (first | exact Pick.hd | apply Pick.tl)); done)) | (apply Sub.app; focus ((repeat (first | exact Pick.hd | apply Pick.tl)); done)) | apply Sub.drop)); done)))
        · skip
          refine Ops.skipg rfl rfl ?_
          refine Ops.skipg rfl rfl ?_
          refine Ops.skipg rfl rfl ?_
          refine Ops.skipg rfl rfl ?_
          refine Ops.skipg rfl rfl ?_
          refine Ops.val (opV_pickF rfl rfl) rfl ?_
          refine Ops.val (opV_assign rfl) rfl ?_
          refine Ops.nil ?_
          refine Ex.blockNormal ?_
          refine Ex.next ?_
          refine Cod.region ?_
          refine Ops.val (opV_add64 rfl rfl (by omega)) rfl ?_
          refine Ops.val (opV_move rfl) rfl ?_
          refine Ops.nil ?_
          refine Ex.toN (fun _ _ hs => ⟨(j + 1, false), ⟨by dsimp only; omega, by dsimp only; rw [hta, ← hbb]; simp [hg]⟩, (by first | omega | (dsimp only; omega) | (simp; omega) | (simp; done)), hs⟩) (by repeat (first | exact trivial | refine ⟨rfl, ?_⟩)) (fun _ h => h.subs (by first | ((repeat (first | exact Sub.refl | exact Sub.nil | apply Sub.emp | (apply Sub.cons; focus ((repeat (first | exact Pick.hd | apply Pick.tl)); done)) | (apply Sub.con; focus ((repeat (first | exact Pick.hd | apply Pick.tl)); done)) | (apply Sub.app; focus ((repeat (first | exact Pick.hd | apply Pick.tl)); done)) | apply Sub.drop)); done) | ((repeat (first | rw [List.append_assoc] | rw [List.cons_append] | rw [List.nil_append] | rw [List.append_nil])); (repeat (first | exact Sub.refl | exact Sub.nil | apply Sub.emp | (apply Sub.cons; focus ((repeat (first | exact Pick.hd | apply Pick.tl)); done)) | (apply Sub.con; focus ((repeat (first | exact Pick.hd | apply Pick.tl)); done)) | (apply Sub.app; focus ((repeat (first | exact Pick.hd | apply Pick.tl)); done)) | apply Sub.drop)); done)))
      · try simp at hc2
        obtain rfl : j = (second.drop (i + 1)).length := by omega
        rw [List.take_length] at hbb
        refine Cod.exit ?_
        refine Ex.thenExit ?_
        refine Ex.thenExit ?_
        refine Ex.blockHit ?_
        refine Ex.next ?_
        refine Cod.seq ?_
        refine Cod.region ?_
        refine Ops.val (opV_move rfl) rfl ?_
        refine Ops.val (opV_field Fx.fld_51_0 rfl) rfl ?_
        refine Ops.val (opV_load Fx.scal_9 rfl (by repeat (first | exact Cell.one rfl | assumption | apply Cell.tl))) rfl ?_
        refine Ops.call rfl (opC_call Fx.cal_21 rfl (fun w hw => get_spec (key := x.key) hw (A := A2) (.mem (by repeat (first | exact List.Mem.head _ | apply List.Mem.tail))) hA2)) rfl ?_
        rintro v77 _ ⟨rfl, rfl⟩
        refine Ops.val (opV_move rfl) rfl ?_
        refine Ops.val (opV_extract rfl rfl) rfl ?_
        refine Ops.val (opV_extract rfl rfl) rfl ?_
        refine Ops.val (opV_assign rfl) rfl ?_
        refine Ops.val (opV_assign rfl) rfl ?_
        refine Ops.nil ?_
        refine Ex.next ?_
        refine Cod.seq ?_
        refine Cod.region ?_
        refine Ops.val (opV_move rfl) rfl ?_
        refine Ops.val (opV_eql rfl rfl (decide_eq_false hcode)) rfl ?_
        refine Ops.val (opV_move rfl) rfl ?_
        refine Ops.skipg rfl rfl ?_
        refine Ops.val (opV_pickF rfl rfl) rfl ?_
        refine Ops.val (opV_move rfl) rfl ?_
        refine Ops.skipg rfl rfl ?_
        refine Ops.skipg rfl rfl ?_
        refine Ops.skipg rfl rfl ?_
        refine Ops.skipg rfl rfl ?_
        refine Ops.skipg rfl rfl ?_
        refine Ops.skipg rfl rfl ?_
        refine Ops.skipg rfl rfl ?_
        refine Ops.skipg rfl rfl ?_
        refine Ops.skipg rfl rfl ?_
        refine Ops.skipg rfl rfl ?_
        refine Ops.skipg rfl rfl ?_
        refine Ops.skipg rfl rfl ?_
        refine Ops.skipg rfl rfl ?_
        refine Ops.val (opV_pickF rfl rfl) rfl ?_
        refine Ops.nil ?_
        refine Ex.next ?_
        refine Cod.condF rfl ?_
        refine Cod.skip ?_
        refine Ex.blockNormal ?_
        refine Ex.next ?_
        refine Cod.region ?_
        refine Ops.val (opV_add64 rfl rfl (by omega)) rfl ?_
        refine Ops.val (opV_move rfl) rfl ?_
        refine Ops.nil ?_
        refine Ex.toN (fun _ _ hs => ⟨i + 1, (by omega), (by first | omega | (dsimp only; omega) | (simp; omega) | (simp; done)), hs⟩) (by repeat (first | exact trivial | refine ⟨rfl, ?_⟩)) (fun _ h => h.subs (by first | ((repeat (first | exact Sub.refl | exact Sub.nil | apply Sub.emp | (apply Sub.cons; focus ((repeat (first | exact Pick.hd | apply Pick.tl)); done)) | (apply Sub.con; focus ((repeat (first | exact Pick.hd | apply Pick.tl)); done)) | (apply Sub.app; focus ((repeat (first | exact Pick.hd | apply Pick.tl)); done)) | apply Sub.drop)); done) | ((repeat (first | rw [List.append_assoc] | rw [List.cons_append] | rw [List.nil_append] | rw [List.append_nil])); (repeat (first | exact Sub.refl | exact Sub.nil | apply Sub.emp | (apply Sub.cons; focus ((repeat (first | exact Pick.hd | apply Pick.tl)); done)) | (apply Sub.con; focus ((repeat (first | exact Pick.hd | apply Pick.tl)); done)) | (apply Sub.app; focus ((repeat (first | exact Pick.hd | apply Pick.tl)); done)) | apply Sub.drop)); done)))
    · try simp at hc
      obtain rfl : i = second.length := by omega
      refine Cod.exit ?_
      refine Ex.thenExit ?_
      refine Ex.thenExit ?_
      refine Ex.blockHit ?_
      refine Ex.next ?_
      refine Cod.seq ?_
      refine Cod.region ?_
      refine Ops.val (opV_move rfl) rfl ?_
      refine Ops.val (opV_loadW Fx.agg_42 rfl (.mem (by repeat (first | exact List.Mem.head _ | apply List.Mem.tail))) (List.Mem.head _) rfl) rfl ?_
      refine Ops.call rfl (opC_call Fx.cal_23 rfl (fun w hw => crashCI (keep := keep) (kn := keep.length) (tear := tear) hCI2 (by omega) (by omega) rfl hkl hw (DA := DA2) (.mem (by repeat (first | exact List.Mem.head _ | apply List.Mem.tail))) hDA2 (KA := e.base) .base hk)) rfl ?_
      rintro v104 _ ⟨vs, AC, LA, hAC, hLA, rfl⟩
      obtain ⟨a104, c104, rfl⟩ := hAC.isSlice
      refine Ops.call rfl (opC_call Fx.cal_22 rfl (fun w hw => openCI hCI2 (by omega) (by omega) hw (A := AC) (.mem (by repeat (first | exact List.Mem.head _ | apply List.Mem.tail))) (B := LA) (.mem (by repeat (first | exact List.Mem.head _ | apply List.Mem.tail))) hAC.sl hLA)) rfl ?_
      rintro v105 _ ⟨p, DN, rfl, hDN, rfl⟩
      refine Ops.val (opV_move rfl) rfl ?_
      refine Ops.val (opV_extract rfl rfl) rfl ?_
      refine Ops.val (opV_extract rfl rfl) rfl ?_
      refine Ops.val (opV_assign rfl) rfl ?_
      refine Ops.val (opV_assign rfl) rfl ?_
      refine Ops.nil ?_
      refine Ex.next ?_
      refine Cod.seq ?_
      refine Cod.seq ?_
      refine Cod.region ?_
      refine Ops.val (opV_move rfl) rfl ?_
      refine Ops.val (opV_ptrnil Fx.ptr_24 rfl rfl rfl) rfl ?_
      refine Ops.nil ?_
      refine Ex.next ?_
      refine Cod.condF rfl ?_
      refine Cod.skip ?_
      refine Ex.next ?_
      refine Cod.seq ?_
      refine Cod.region ?_
      refine Ops.val (opV_move rfl) rfl ?_
      refine Ops.call rfl (opC_call Fx.cal_24 rfl (fun w hw => catOpenCI hG hE hCI2 (by omega) (by omega) hw (DA := DN) (by repeat (first | exact Pick.hd | apply Pick.tl)) hDN)) rfl ?_
      rintro v112 _ ⟨cN, lN, AN, DA3, rfl, hAN, hDA3, rfl⟩
      refine Ops.val (opV_move rfl) rfl ?_
      refine Ops.val (opV_extract rfl rfl) rfl ?_
      refine Ops.val (opV_extract rfl rfl) rfl ?_
      refine Ops.val (opV_assign rfl) rfl ?_
      refine Ops.val (opV_assign rfl) rfl ?_
      refine Ops.nil ?_
      refine Ex.next ?_
      refine Cod.seq ?_
      refine Cod.region ?_
      refine Ops.val (opV_move rfl) rfl ?_
      refine Ops.val (opV_ptrnnil Fx.ptr_43 rfl rfl rfl) rfl ?_
      refine Ops.val (opV_move rfl) rfl ?_
      refine Ops.valg rfl (opV_move rfl) rfl ?_
      refine Ops.valg rfl (opV_eql rfl rfl rfl) rfl ?_
      refine Ops.val (opV_pickT rfl rfl) rfl ?_
      refine Ops.val (opV_move rfl) rfl ?_
      refine Ops.valg rfl (opV_move rfl) rfl ?_
      refine Ops.call rfl (opC_call Fx.cal_19 rfl (fun w hw => pairsCI hCI2.anew hw (A := AN) (.mem (by repeat (first | exact List.Mem.head _ | apply List.Mem.tail))) hAN)) rfl ?_
      rintro v123 _ ⟨AP3, hAP3, rfl⟩
      refine Ops.valg rfl (opV_move rfl) rfl ?_
      refine Ops.call rfl (opC_call Fx.cal_20 rfl (fun w hw => same_true hCI2.pairs hw (A := AP3) (.mem (by repeat (first | exact List.Mem.head _ | apply List.Mem.tail))) (B := AP2) (.mem (by repeat (first | exact List.Mem.head _ | apply List.Mem.tail))) rfl rfl (by rw [pairs_len]; have := hCI2.anew.el; omega) hAP3.sl hAP2.sl)) rfl ?_
      rintro v125 _ ⟨rfl, rfl⟩
      refine Ops.val (opV_pickT rfl rfl) rfl ?_
      refine Ops.val (opV_assign rfl) rfl ?_
      refine Ops.nil ?_
      refine Ex.next ?_
      refine Cod.ret ?_
      exact Ex.ret1 rfl rfl (fun _ h => h.subs (by first | ((repeat (first | exact Sub.refl | exact Sub.nil | apply Sub.emp | (apply Sub.cons; focus ((repeat (first | exact Pick.hd | apply Pick.tl)); done)) | (apply Sub.con; focus ((repeat (first | exact Pick.hd | apply Pick.tl)); done)) | (apply Sub.app; focus ((repeat (first | exact Pick.hd | apply Pick.tl)); done)) | apply Sub.drop)); done) | ((repeat (first | rw [List.append_assoc] | rw [List.cons_append] | rw [List.nil_append] | rw [List.append_nil])); (repeat (first | exact Sub.refl | exact Sub.nil | apply Sub.emp | (apply Sub.cons; focus ((repeat (first | exact Pick.hd | apply Pick.tl)); done)) | (apply Sub.con; focus ((repeat (first | exact Pick.hd | apply Pick.tl)); done)) | (apply Sub.app; focus ((repeat (first | exact Pick.hd | apply Pick.tl)); done)) | apply Sub.drop)); done))) rfl
end
end Go.Proofs.YteejmoldhbfdnaaGreatDoor.Atom13
