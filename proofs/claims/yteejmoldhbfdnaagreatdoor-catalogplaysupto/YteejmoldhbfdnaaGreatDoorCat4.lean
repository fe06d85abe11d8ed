/- Package catalog: Compact, Open. -/
import Derived.Test.YteejmoldhbfdnaaGreatDoorCat3
import Derived.Test.YteejmoldhbfdnaaGreatDoorLogL
import Derived.Test.YteejmoldhbfdnaaGreatDoorCrashL
set_option maxRecDepth 8000
namespace Go.Proofs.YteejmoldhbfdnaaGreatDoor.Cat4
open Go.W Go.RowKit Lib1 Oct OctR Seal Disk Disk2 Wal Num Wal2 Wal3 CatL Cat Cat2 Cat3 LogL
namespace Fx
theorem agg_51 : aggSz Tryz.prog 51 = some 3 := by kernel_rfl
theorem agg_74 : aggSz Tryz.prog 74 = some 2 := by kernel_rfl
theorem cal_19 : callable Tryz.prog 19 = true := by kernel_rfl
theorem cal_71 : callable Tryz.prog 71 = true := by kernel_rfl
theorem cal_72 : callable Tryz.prog 72 = true := by kernel_rfl
theorem cal_76 : callable Tryz.prog 76 = true := by kernel_rfl
theorem cal_77 : callable Tryz.prog 77 = true := by kernel_rfl
theorem cal_83 : callable Tryz.prog 83 = true := by kernel_rfl
theorem fld_154_0 : fieldOff Tryz.prog 154 0 = some 0 := by kernel_rfl
theorem fld_74_0 : fieldOff Tryz.prog 74 0 = some 0 := by kernel_rfl
theorem fld_74_1 : fieldOff Tryz.prog 74 1 = some 1 := by kernel_rfl
theorem ni_39 : notInt Tryz.prog 39 = true := by kernel_rfl
theorem scal_136 : scalarB Tryz.prog 136 = true := by kernel_rfl
theorem scal_29 : scalarB Tryz.prog 29 = true := by kernel_rfl
theorem scal_9 : scalarB Tryz.prog 9 = true := by kernel_rfl
theorem sl_22 : slInfo Tryz.prog 22 = some (29, 1, 24, some (.slice none 0 0)) := by kernel_rfl
theorem sl_39 : slInfo Tryz.prog 39 = some (51, 3, 40, some (.agg #[(S []), (S []), (.bool false)])) := by kernel_rfl
theorem sl_47 : slInfo Tryz.prog 47 = some (74, 2, 32, some (.agg #[(S []), (S [])])) := by kernel_rfl
theorem st_154 : stInfo Tryz.prog 154 = some (#[(.pointer none), (.map none), (.int .i64 0)], #[(0, 1), (1, 1), (2, 1)]) := by kernel_rfl
theorem st_51 : stInfo Tryz.prog 51 = some (#[(S []), (S []), (.bool false)], #[(0, 1), (1, 1), (2, 1)]) := by kernel_rfl
theorem zero_51 : (Tryz.prog.info? 51).bind (·.zero) = some (.agg #[(S []), (S []), (.bool false)]) := by kernel_rfl
theorem zero_74 : (Tryz.prog.info? 74).bind (·.zero) = some (.agg #[(S []), (S [])]) := by kernel_rfl

end Fx
def chOf (ps : List Pr) : List Ch := ps.map fun p => ⟨p.1, p.2, false⟩
theorem chOf_len (ps : List Pr) : (chOf ps).length = ps.length := by simp [chOf]
theorem chOf_W (ps : List Pr) : ((chOf ps).map chW).sum = 9 * ps.length + sumB ps := by
  unfold chOf sumB
  induction ps with
  | nil => rfl
  | cons p ps ih => simp only [List.map_cons, List.sum_cons, List.length_cons, chW] at ih ⊢; omega
theorem pairsOf_perm {es : List Pr} (hnd : (es.map Prod.fst).Nodup) : (pairsOf es).Perm es := by
  have h1 : (sk es).Perm (es.map Prod.fst) := List.mergeSort_perm _ _
  have h2 := h1.map fun k => (k, (lkp k es).getD [])
  refine h2.trans ?_
  rw [List.map_map]
  have : es.map ((fun k => (k, (lkp k es).getD [])) ∘ Prod.fst) = es.map id := by
    apply List.map_congr_left
    intro x hx
    have := lkp_of_mem hnd (show (x.1, x.2) ∈ es from hx)
    simp [this]
  rw [this, List.map_id]
theorem sumB_perm {a b : List Pr} (h : a.Perm b) : sumB a = sumB b := (h.map (fun p : Pr => p.1.length + p.2.length)).sum_nat
section
variable {e : Ctx} {w : World} {As F G H : List Hp} {A B DA VA : Hp} {c d lb gen size : Nat} {es : List Pr} {cs : List Ch} {v u lv : Value} {x : Ch} {D : DK}
theorem compact_spec (hG : Glob e) (hl : sumB es ≤ 500000) (hn : es.length ≤ 10000) (hnd : (es.map Prod.fst).Nodup) (hk : gen ≤ 999999998)
    (hu : D.used ≤ 800000000) (hpn : D.pend.length < 100000000) (hpo : PendOK D) (hr : D.room ≤ 9223372036854775807) (hf : (D.used : Int) + 1100000 ≤ D.room) (hold : (lkp (fileF catB gen) D.files).isSome = true)
    (hw : Owns e w As) (hp : Pick As A F) (hq : Pick F DA G) (hL : Pick G (logB lb d catB gen size) H) (hC : CatM c (.pointer (some ⟨lb, 0, none⟩)) es A) (hD : DiskA d D DA) :
    Calls Tryz.prog 30 #[.pointer (some ⟨c, 0, none⟩)] w (Ret e fun u Bs => u = .int .i64 0 ∧ ∃ DA', DiskA d (renewD D catB gen (encF (chOf (pairsOf es)))) DA' ∧
      Bs = A :: DA' :: logB lb d catB (gen + 1) (wrapped (encF (chOf (pairsOf es)))).length :: H) := by
  have hC0 := hC
  obtain ⟨mb, ob, hM, hAe⟩ := hC0
  have hpl := pairs_len es
  have hcl := chOf_len (pairsOf es)
  have hcW := chOf_W (pairsOf es)
  have hsp := sumB_perm (pairsOf_perm hnd)
  have hel := encF_len (chOf (pairsOf es))
  have hwl := wrapped_length (encF (chOf (pairsOf es)))
  refine enter Tryz.func30 rfl Tryz.ntmps30 ((hw.pick2 hp hq).pick (.tl (.tl hL))) rfl ?_
  refine Cod.seq ?_
  refine Cod.region ?_
  refine Ops.val (opV_assign rfl) rfl ?_
  refine Ops.nil ?_
  refine Ex.next ?_
  refine Cod.seq ?_
  refine Cod.region ?_
  refine Ops.val (opV_assign rfl) rfl ?_
  refine Ops.nil ?_
  refine Ex.next ?_
  refine Cod.seq ?_
  refine Cod.seq ?_
  refine Cod.region ?_
  refine Ops.val (opV_move rfl) rfl ?_
  refine Ops.call rfl (opC_call Fx.cal_19 rfl (fun w hw => pairs_spec (by omega) (by omega) hw (A := A) (.mem (by repeat (first | exact List.Mem.head _ | apply List.Mem.tail))) hC)) rfl ?_
  rintro v7 _ ⟨AP, hAP, rfl⟩
  refine Ops.val (opV_len Fx.sl_47 rfl hAP.isSlice) rfl ?_
  refine Ops.val (opV_move rfl) rfl ?_
  refine Ops.nil ?_
  refine Ex.next ?_
  refine Cod.block ?_
  refine Cod.loop (X := Nat × Value × Hp) (fun (i, u, A2) => [(0, .pointer (some ⟨c, 0, none⟩)), (3, u), (7, v7), (8, .int .i64 (pairsOf es).length), (9, .int .i64 (i : Int))]) (fun (i, u, A2) => A2 :: AP :: logB lb d catB gen size :: A :: DA :: H) (fun (i, u, A2) => i ≤ (pairsOf es).length ∧ Row 51 3 u ((chOf (pairsOf es)).take i).length (chs ((chOf (pairsOf es)).take i)) A2) (fun (i, u, A2) => (pairsOf es).length - i) ((0, .slice none 0 0, [])) (⟨Nat.zero_le _, Row.nil _ _⟩) (by repeat (first | exact trivial | refine ⟨rfl, ?_⟩)) (fun _ h => h.subs (by first | ((repeat (first | exact Sub.refl | exact Sub.nil | apply Sub.emp | (apply Sub.cons; focus ((repeat (first | exact Pick.hd | apply Pick.tl)); done)) | (apply Sub.con; focus ((repeat (first | exact Pick.hd | apply Pick.tl)); done)) | (apply Sub.app; focus ((repeat (first | exact Pick.hd | apply Pick.tl)); done)) | apply Sub.drop)); done) | ((repeat (first | rw [List.append_assoc] | rw [List.cons_append] | rw [List.nil_append] | rw [List.append_nil])); (repeat (first | exact Sub.refl | exact Sub.nil | apply Sub.emp | (apply Sub.cons; focus ((repeat (first | exact Pick.hd | apply Pick.tl)); done)) | (apply Sub.con; focus ((repeat (first | exact Pick.hd | apply Pick.tl)); done)) | (apply Sub.app; focus ((repeat (first | exact Pick.hd | apply Pick.tl)); done)) | apply Sub.drop)); done))) ?_
  rintro ⟨i, u, A2⟩ ⟨hi, hA2⟩
  try dsimp only
  refine Cod.seq ?_
  refine Cod.region ?_
  refine Ops.val (opV_lss rfl rfl (by first | exact decide_eq_true (by omega) | exact decide_eq_false (by omega) | rfl)) rfl ?_
  refine Ops.nil ?_
  refine Ex.next ?_
  refine Cod.seq ?_
  refine Cod.cond rfl (fun hc => ?_) (fun hc => ?_)
  · try simp at hc
    obtain ⟨x, hx⟩ : ∃ x, (pairsOf es)[i]? = some x := ⟨_, List.getElem?_eq_getElem (by omega)⟩
    have hxc : (chOf (pairsOf es))[i]? = some ⟨x.1, x.2, false⟩ := by simp [chOf, List.getElem?_map, hx]
    have htl : ((chOf (pairsOf es)).take i).length ≤ (chOf (pairsOf es)).length := by rw [List.length_take]; omega
    refine Cod.skip ?_
    refine Ex.next ?_
    refine Cod.seq ?_
    refine Cod.block ?_
    refine Cod.seq ?_
    refine Cod.region ?_
    refine Ops.val (opV_indexAddr Fx.sl_47 rfl hAP.sl (k := i) rfl (by omega)) rfl ?_
    refine Ops.val (opV_loadEA Fx.agg_74 rfl hAP.sl (.mem (by repeat (first | exact List.Mem.head _ | apply List.Mem.tail))) (prs_get hx) rfl (by decide)) rfl ?_
    refine Ops.eff rfl (opE_alloc Fx.zero_74) rfl ?_
    rintro _ _ ⟨b5, rfl, rfl⟩
    refine Ops.st rfl (opS_storeA Fx.agg_74 rfl rfl rfl (by (try simp only [putAt]); simp only [List.mem_cons, List.not_mem_nil, or_false]; (try simp only [forall_eq_or_imp]); (try simp only [forall_eq]); (repeat' apply And.intro) <;> first | rfl | assumption | exact Row.one (by assumption) | exact Sl.one (by assumption)) rfl (by repeat (first | exact Upd.hd | apply Upd.tl)) rfl) ?_
    refine Ops.nil ?_
    refine Ex.next ?_
    refine Cod.region ?_
    refine Ops.val (opV_move rfl) rfl ?_
    refine Ops.val (opV_field Fx.fld_74_0 rfl) rfl ?_
    refine Ops.val (opV_load Fx.scal_9 rfl (by repeat (first | exact Cell.one rfl | assumption | apply Cell.tl))) rfl ?_
    refine Ops.val (opV_field Fx.fld_74_1 rfl) rfl ?_
    refine Ops.val (opV_load Fx.scal_9 rfl (by repeat (first | exact Cell.one rfl | assumption | apply Cell.tl))) rfl ?_
    refine Ops.val (opV_build Fx.st_51 rfl (by first | (simp [fillL, vcells, putAt]; rfl) | (simp [fillL, vcells, putAt]; done) | rfl)) rfl ?_
    refine Ops.eff rfl (opE_buildSlice Fx.sl_39 rfl rfl (by first | (simp [fillL, rowCells, vcells, putAt]; rfl) | (simp [fillL, rowCells, vcells, putAt]; done) | rfl)) rfl ?_
    rintro _ _ ⟨b19, rfl, rfl⟩
    refine Ops.eff rfl (opE_append Fx.sl_39 rfl Fx.ni_39 rfl rfl (by repeat (first | exact Pick.hd | apply Pick.tl)) hA2 (one_src (.mem (by repeat (first | exact List.Mem.head _ | apply List.Mem.tail))) rfl (by simp [Value.oneCell'])) (by omega) (by simp [maxLen]; omega)) rfl ?_
    rintro v20 _ ⟨A20, hA20, rfl⟩
    refine Ops.val (opV_assign rfl) rfl ?_
    refine Ops.nil ?_
    refine Ex.blockNormal ?_
    refine Ex.next ?_
    refine Cod.region ?_
    refine Ops.val (opV_add64 rfl rfl (by omega)) rfl ?_
    refine Ops.val (opV_move rfl) rfl ?_
    refine Ops.nil ?_
    refine Ex.toN (fun _ _ hs => ⟨(i + 1, v20, A20), ⟨by dsimp only; omega, by dsimp only; rw [List.take_add_one, hxc]; simpa [chs, chV] using hA20⟩, (by first | omega | (dsimp only; omega) | (simp; omega) | (simp; done)), hs⟩) (by repeat (first | exact trivial | refine ⟨rfl, ?_⟩)) (fun _ h => h.subs (by first | ((repeat (first | exact Sub.refl | exact Sub.nil | apply Sub.emp | (apply Sub.cons; focus ((repeat (first | exact Pick.hd | apply Pick.tl)); done)) | (apply Sub.con; focus ((repeat (first | exact Pick.hd | apply Pick.tl)); done)) | (apply Sub.app; focus ((repeat (first | exact Pick.hd | apply Pick.tl)); done)) | apply Sub.drop)); done) | ((repeat (first | rw [List.append_assoc] | rw [List.cons_append] | rw [List.nil_append] | rw [List.append_nil])); (repeat (first | exact Sub.refl | exact Sub.nil | apply Sub.emp | (apply Sub.cons; focus ((repeat (first | exact Pick.hd | apply Pick.tl)); done)) | (apply Sub.con; focus ((repeat (first | exact Pick.hd | apply Pick.tl)); done)) | (apply Sub.app; focus ((repeat (first | exact Pick.hd | apply Pick.tl)); done)) | apply Sub.drop)); done)))
  · try simp at hc
    obtain rfl : i = (pairsOf es).length := by omega
    rw [List.take_of_length_le (by omega)] at hA2
    refine Cod.exit ?_
    refine Ex.thenExit ?_
    refine Ex.thenExit ?_
    refine Ex.blockHit ?_
    refine Ex.next ?_
    refine Cod.seq ?_
    refine Cod.draw [3] [0, 1, 2, 4, 7] (A :: []) [0, 1, 2, 3, 4, 5, 6, 7] M.mixed (by kernel_rfl) ?_
    refine AnyJ.valU rfl rfl rfl (opV_move rfl) rfl (fun _ _ _ h => h.2.elim) ?_
    refine AnyJ.valU rfl rfl rfl (opV_nil rfl) rfl (fun _ _ _ h => h.2.elim) ?_
    refine AnyJ.valU rfl rfl rfl (opV_field Fx.fld_154_0 rfl) rfl (fun _ _ _ h => h.2.elim) ?_
    refine AnyJ.val rfl rfl (opV_load Fx.scal_136 rfl (cellOf (i := 0) (A := A) (.mem (by repeat (first | exact List.Mem.head _ | apply List.Mem.tail))) (hAe ▸ List.Mem.head _) rfl)) rfl (fun _ _ _ h => h.2.elim) (fun _ h => h.subs (by first | ((repeat (first | exact Sub.refl | exact Sub.nil | apply Sub.emp | (apply Sub.cons; focus ((repeat (first | exact Pick.hd | apply Pick.tl)); done)) | (apply Sub.con; focus ((repeat (first | exact Pick.hd | apply Pick.tl)); done)) | (apply Sub.app; focus ((repeat (first | exact Pick.hd | apply Pick.tl)); done)) | apply Sub.drop)); done) | ((repeat (first | rw [List.append_assoc] | rw [List.cons_append] | rw [List.nil_append] | rw [List.append_nil])); (repeat (first | exact Sub.refl | exact Sub.nil | apply Sub.emp | (apply Sub.cons; focus ((repeat (first | exact Pick.hd | apply Pick.tl)); done)) | (apply Sub.con; focus ((repeat (first | exact Pick.hd | apply Pick.tl)); done)) | (apply Sub.app; focus ((repeat (first | exact Pick.hd | apply Pick.tl)); done)) | apply Sub.drop)); done))) ?_
    refine AnyJ.valU rfl rfl rfl (opV_move rfl) rfl (fun _ _ _ h => h.2.elim) ?_
    refine AnyJ.call rfl rfl (opC_call Fx.cal_72 rfl (fun w hw => encode_spec (cs := chOf (pairsOf es)) rfl (by omega) hw (A := A2) (.mem (by repeat (first | exact List.Mem.head _ | apply List.Mem.tail))) hA2.sl)) rfl ?_
    rintro v27 _ ⟨AE, hAE, rfl⟩
    refine ⟨(by first | (intro _ _ h; refine h.subs ?_; (repeat (first | exact Sub.refl | exact Sub.nil | apply Sub.emp | (apply Sub.cons; focus ((repeat (first | exact Pick.hd | apply Pick.tl)); done)) | (apply Sub.con; focus ((repeat (first | exact Pick.hd | apply Pick.tl)); done)) | (apply Sub.app; focus ((repeat (first | exact Pick.hd | apply Pick.tl)); done)) | apply Sub.drop)); done) | exact lead_no (by kernel_rfl)), ?_⟩
    refine AnyJ.call rfl rfl (opC_call Fx.cal_83 rfl (fun w hw => renew_ok (base := catB) (gen := gen) (size := size) hG okCat hk (by omega) hpn hpo hr (by omega) (by omega) hold rfl hw (A := DA) (by repeat (first | exact Pick.hd | apply Pick.tl)) (by repeat (first | exact Pick.hd | apply Pick.tl)) hD (B := AE) (.mem (by repeat (first | exact List.Mem.head _ | apply List.Mem.tail))) hAE.sl)) rfl ?_
    rintro v28 _ ⟨rfl, DA1, hDA1, rfl⟩
    refine ⟨(by first | (intro _ _ h; refine h.subs ?_; (repeat (first | exact Sub.refl | exact Sub.nil | apply Sub.emp | (apply Sub.cons; focus ((repeat (first | exact Pick.hd | apply Pick.tl)); done)) | (apply Sub.con; focus ((repeat (first | exact Pick.hd | apply Pick.tl)); done)) | (apply Sub.app; focus ((repeat (first | exact Pick.hd | apply Pick.tl)); done)) | apply Sub.drop)); done) | exact lead_no (by kernel_rfl)), ?_⟩
    refine AnyJ.valU rfl rfl rfl (opV_assign rfl) rfl (fun _ _ _ h => h.2.elim) ?_
    refine AnyJ.nil ?_
    refine Ex.next ?_
    refine Cod.ret ?_
    exact Ex.ret1 rfl rfl (fun _ h => h.subs (by first | ((repeat (first | exact Sub.refl | exact Sub.nil | apply Sub.emp | (apply Sub.cons; focus ((repeat (first | exact Pick.hd | apply Pick.tl)); done)) | (apply Sub.con; focus ((repeat (first | exact Pick.hd | apply Pick.tl)); done)) | (apply Sub.app; focus ((repeat (first | exact Pick.hd | apply Pick.tl)); done)) | apply Sub.drop)); done) | ((repeat (first | rw [List.append_assoc] | rw [List.cons_append] | rw [List.nil_append] | rw [List.append_nil])); (repeat (first | exact Sub.refl | exact Sub.nil | apply Sub.emp | (apply Sub.cons; focus ((repeat (first | exact Pick.hd | apply Pick.tl)); done)) | (apply Sub.con; focus ((repeat (first | exact Pick.hd | apply Pick.tl)); done)) | (apply Sub.app; focus ((repeat (first | exact Pick.hd | apply Pick.tl)); done)) | apply Sub.drop)); done))) ⟨rfl, DA1, hDA1, rfl⟩
/-- What Open has made of the records. -/
def OpenR (d : Nat) (es : List Pr) (g kk : Nat) (D' : DK) (F : List Hp) (u : Value) (Bs : List Hp) : Prop :=
  ∃ c l A' DA', u = .tuple #[.pointer (some ⟨c, 0, none⟩), .int .i64 0] ∧ CatM c (.pointer (some ⟨l, 0, none⟩)) es A' ∧ DiskA d D' DA' ∧ Bs = A' :: DA' :: logB l d catB g kk :: F
theorem hist_split {hist : List (List Ch)} {i : Nat} {cs : List Ch} (h : hist[i]? = some cs) : hist.flatten = (hist.take i).flatten ++ (cs ++ (hist.drop (i + 1)).flatten) := by
  obtain ⟨hi, hc⟩ := List.getElem?_eq_some_iff.1 h
  conv => lhs; rw [← List.take_append_drop i hist, List.drop_eq_getElem_cons hi, hc]
  simp
theorem afterE_snoc (es : List Pr) (cs : List Ch) (x : Ch) : afterE es (cs ++ [x]) = apE (afterE es cs) x := by unfold afterE; rw [List.foldl_append]; rfl
theorem catOpen_new (hG : Glob e) (hE : Kit.HasErr e) (hr : D.room = 1099511627776) (hD0 : D.files = []) (hp0 : D.pend = []) (hw : Owns e w As) (hp : Pick As DA F) (hD : DiskA d D DA) :
    Calls Tryz.prog 24 #[.pointer (some ⟨d, 0, none⟩)] w (Ret e (OpenR d [] 1 8 (putD D 1 []) F)) := by
  have hu0 : D.used = 0 := by simp [DK.used, hD0, usedF]
  obtain ⟨hist, hhist⟩ : ∃ h : List (List Ch), h = [[]] := ⟨_, rfl⟩
  have hW : ((hist.flatten).map chW).sum ≤ 800000000 := by rw [hhist]; simp
  have hH : hist.length ≤ 100000000 := by rw [hhist]; simp
  refine enter Tryz.func24 rfl Tryz.ntmps24 hw rfl ?_
  refine Cod.seq ?_
  refine Cod.region ?_
  refine Ops.val (opV_assign rfl) rfl ?_
  refine Ops.val (opV_assign rfl) rfl ?_
  refine Ops.nil ?_
  refine Ex.next ?_
  refine Cod.seq ?_
  refine Cod.region ?_
  refine Ops.val (opV_move rfl) rfl ?_
  refine Ops.call rfl (opC_call Fx.cal_76 rfl (fun w hw => open_spec (base := catB) (g := 0) (kk := 0) (data := []) (safe := []) (recs := []) hG hE okCat (fun x hx => by rw [hD0] at hx; simp [lkp] at hx) (by rw [hD0]; simp) (by omega) (by rw [hp0]; simp) (fun x hx => by rw [hp0] at hx; cases hx) (by omega) (fun g' _ _ h => by rw [hD0] at h; simp [lkp] at h) (fun h => absurd rfl h) hw hp hD)) rfl ?_
  rintro v16 _ hO
  obtain ⟨l, v8, vs, R8, A8, DA1, rfl, hR8, hBL, hDA1, rfl⟩ : ∃ l v8 vs R8 A8 DA1, v16 = .tuple #[.pointer (some ⟨l, 0, none⟩), v8, .int .i64 0] ∧ Row 29 1 v8 (hist.map encF).length vs R8 ∧ BL A8 vs (hist.map encF) ∧ DiskA d (putD D 1 []) DA1 ∧ _ = DA1 :: logB l d catB 1 8 :: R8 :: A8 :: F := by
      rcases hO with ⟨h, _⟩ | ⟨_, _, l, v8, vs, R8, A8, A', h1, h2, h3, h4, h5⟩ | ⟨_, h, _⟩
      · exact absurd rfl h
      · rw [hhist]; exact ⟨l, v8, vs, R8, A8, A', h1, h2, h3, h4, h5⟩
      · omega
  have hfin : afterE [] hist.flatten = [] := by rw [hhist]; rfl
  refine Ops.val (opV_move rfl) rfl ?_
  refine Ops.val (opV_extract rfl rfl) rfl ?_
  refine Ops.val (opV_extract rfl rfl) rfl ?_
  refine Ops.val (opV_extract rfl rfl) rfl ?_
  refine Ops.val (opV_assign rfl) rfl ?_
  refine Ops.val (opV_assign rfl) rfl ?_
  refine Ops.val (opV_assign rfl) rfl ?_
  refine Ops.nil ?_
  refine Ex.next ?_
  refine Cod.seq ?_
  refine Cod.seq ?_
  refine Cod.region ?_
  refine Ops.val (opV_move rfl) rfl ?_
  refine Ops.val (opV_neq rfl rfl (by first | exact decide_eq_true (by omega) | exact decide_eq_false (by omega) | rfl)) rfl ?_
  refine Ops.nil ?_
  refine Ex.next ?_
  refine Cod.condF rfl ?_
  refine Cod.skip ?_
  refine Ex.next ?_
  refine Cod.seq ?_
  refine Cod.region ?_
  refine Ops.val (opV_move rfl) rfl ?_
  refine Ops.eff rfl opE_makeMap rfl ?_
  rintro _ _ ⟨b24, rfl, rfl⟩
  refine Ops.val (opV_build Fx.st_154 rfl (by first | (simp [fillL, vcells, putAt]; rfl) | (simp [fillL, vcells, putAt]; done) | rfl)) rfl ?_
  refine Ops.eff rfl (opE_box rfl) rfl ?_
  rintro _ _ ⟨b26, rfl, rfl⟩
  refine Ops.val (opV_assign rfl) rfl ?_
  refine Ops.nil ?_
  refine Ex.next ?_
  refine Cod.seq ?_
  refine Cod.seq ?_
  refine Cod.region ?_
  refine Ops.val (opV_move rfl) rfl ?_
  refine Ops.val (opV_len Fx.sl_22 rfl hR8.isSlice) rfl ?_
  have hhl : hist.length = (hist.map encF).length := by simp
  refine Ops.val (opV_move rfl) rfl ?_
  refine Ops.nil ?_
  refine Ex.next ?_
  refine Cod.block ?_
  refine Cod.loop (X := Nat × Hp) (fun (i, A1) => [(7, .pointer (some ⟨b26, 0, none⟩)), (27, v8), (28, .int .i64 (hist.map encF).length), (29, .int .i64 (i : Int))]) (fun (i, A1) => A1 :: DA1 :: logB l d catB 1 8 :: R8 :: A8 :: F) (fun (i, A1) => i ≤ (hist.map encF).length ∧ CatM b26 (.pointer (some ⟨l, 0, none⟩)) (afterE [] (hist.take i).flatten) A1) (fun (i, A1) => (hist.map encF).length - i) ((0, (b26, .cells #[.pointer (some ⟨l, 0, none⟩), .map (some b24), .int .i64 0] 154) :: [(b24, .map #[] 0)])) (⟨Nat.zero_le _, b24, .map #[] 0, MapO.new rfl, rfl⟩) (by repeat (first | exact trivial | refine ⟨rfl, ?_⟩)) (fun _ h => h.subs (by first | ((repeat (first | exact Sub.refl | exact Sub.nil | apply Sub.emp | (apply Sub.cons; focus ((repeat (first | exact Pick.hd | apply Pick.tl)); done)) | (apply Sub.con; focus ((repeat (first | exact Pick.hd | apply Pick.tl)); done)) | (apply Sub.app; focus ((repeat (first | exact Pick.hd | apply Pick.tl)); done)) | apply Sub.drop)); done) | ((repeat (first | rw [List.append_assoc] | rw [List.cons_append] | rw [List.nil_append] | rw [List.append_nil])); (repeat (first | exact Sub.refl | exact Sub.nil | apply Sub.emp | (apply Sub.cons; focus ((repeat (first | exact Pick.hd | apply Pick.tl)); done)) | (apply Sub.con; focus ((repeat (first | exact Pick.hd | apply Pick.tl)); done)) | (apply Sub.app; focus ((repeat (first | exact Pick.hd | apply Pick.tl)); done)) | apply Sub.drop)); done))) ?_
  rintro ⟨i, A1⟩ ⟨hi, hA1⟩
  try dsimp only
  refine Cod.seq ?_
  refine Cod.region ?_
  refine Ops.val (opV_lss rfl rfl (by first | exact decide_eq_true (by omega) | exact decide_eq_false (by omega) | rfl)) rfl ?_
  refine Ops.nil ?_
  refine Ex.next ?_
  refine Cod.seq ?_
  refine Cod.cond rfl (fun hc => ?_) (fun hc => ?_)
  · try simp at hc
    obtain ⟨cs, hcs⟩ : ∃ x, hist[i]? = some x := ⟨_, List.getElem?_eq_getElem (by omega)⟩
    have hrec : (hist.map encF)[i]? = some (encF cs) := by rw [List.getElem?_map, hcs]; rfl
    obtain ⟨rv, hrv, hrs⟩ := hBL.get hrec
    have hsp := hist_split hcs
    have hcl : (cs.map chW).sum ≤ 800000000 := by rw [hsp, List.map_append, List.sum_append, List.map_append, List.sum_append] at hW; omega
    have hel := encF_len cs
    have hn9 := len_chW cs
    refine Cod.skip ?_
    refine Ex.next ?_
    refine Cod.seq ?_
    refine Cod.block ?_
    refine Cod.seq ?_
    refine Cod.region ?_
    refine Ops.val (opV_indexAddr Fx.sl_22 rfl hR8.sl (k := i) rfl (by omega)) rfl ?_
    refine Ops.val (opV_loadE Fx.scal_29 rfl hR8.sl (.mem (by repeat (first | exact List.Mem.head _ | apply List.Mem.tail))) (by rw [Nat.mul_one]; exact hrv)) rfl ?_
    refine Ops.val (opV_assign rfl) rfl ?_
    refine Ops.nil ?_
    refine Ex.next ?_
    refine Cod.seq ?_
    refine Cod.region ?_
    refine Ops.val (opV_move rfl) rfl ?_
    refine Ops.call rfl (opC_call Fx.cal_77 rfl (fun w hw => decode_spec (cs := cs) rfl (by omega) hw (A := A8) (.mem (by repeat (first | exact List.Mem.head _ | apply List.Mem.tail))) hrs)) rfl ?_
    rintro v35 _ ⟨vd, AD, rfl, hAD, rfl⟩
    refine Ops.val (opV_move rfl) rfl ?_
    refine Ops.val (opV_extract rfl rfl) rfl ?_
    refine Ops.val (opV_extract rfl rfl) rfl ?_
    refine Ops.val (opV_assign rfl) rfl ?_
    refine Ops.val (opV_assign rfl) rfl ?_
    refine Ops.nil ?_
    refine Ex.next ?_
    refine Cod.seq ?_
    refine Cod.seq ?_
    refine Cod.region ?_
    refine Ops.val (opV_move rfl) rfl ?_
    refine Ops.val (opV_not rfl) rfl ?_
    refine Ops.nil ?_
    refine Ex.next ?_
    refine Cod.condF rfl ?_
    refine Cod.skip ?_
    refine Ex.next ?_
    refine Cod.seq ?_
    refine Cod.region ?_
    refine Ops.val (opV_move rfl) rfl ?_
    refine Ops.val (opV_len Fx.sl_39 rfl hAD.isSlice) rfl ?_
    refine Ops.val (opV_move rfl) rfl ?_
    refine Ops.nil ?_
    refine Ex.next ?_
    refine Cod.block ?_
    refine Cod.loop (X := Nat × Hp) (fun (j, A1) => [(7, .pointer (some ⟨b26, 0, none⟩)), (27, v8), (28, .int .i64 (hist.map encF).length), (29, .int .i64 (i : Int)), (40, vd), (41, .int .i64 cs.length), (42, .int .i64 (j : Int))]) (fun (j, A1) => A1 :: AD :: DA1 :: logB l d catB 1 8 :: R8 :: A8 :: F) (fun (j, A1) => j ≤ cs.length ∧ CatM b26 (.pointer (some ⟨l, 0, none⟩)) (afterE [] ((hist.take i).flatten ++ cs.take j)) A1) (fun (j, A1) => cs.length - j) ((0, A1)) (⟨Nat.zero_le _, by simpa using hA1⟩) (by repeat (first | exact trivial | refine ⟨rfl, ?_⟩)) (fun _ h => h.subs (by first | ((repeat (first | exact Sub.refl | exact Sub.nil | apply Sub.emp | (apply Sub.cons; focus ((repeat (first | exact Pick.hd | apply Pick.tl)); done)) | (apply Sub.con; focus ((repeat (first | exact Pick.hd | apply Pick.tl)); done)) | (apply Sub.app; focus ((repeat (first | exact Pick.hd | apply Pick.tl)); done)) | apply Sub.drop)); done) | ((repeat (first | rw [List.append_assoc] | rw [List.cons_append] | rw [List.nil_append] | rw [List.append_nil])); (repeat (first | exact Sub.refl | exact Sub.nil | apply Sub.emp | (apply Sub.cons; focus ((repeat (first | exact Pick.hd | apply Pick.tl)); done)) | (apply Sub.con; focus ((repeat (first | exact Pick.hd | apply Pick.tl)); done)) | (apply Sub.app; focus ((repeat (first | exact Pick.hd | apply Pick.tl)); done)) | apply Sub.drop)); done))) ?_
    rintro ⟨j, A1⟩ ⟨hj, hA1⟩
    try dsimp only
    refine Cod.seq ?_
    refine Cod.region ?_
    refine Ops.val (opV_lss rfl rfl (by first | exact decide_eq_true (by omega) | exact decide_eq_false (by omega) | rfl)) rfl ?_
    refine Ops.nil ?_
    refine Ex.next ?_
    refine Cod.seq ?_
    refine Cod.cond rfl (fun hc2 => ?_) (fun hc2 => ?_)
    · try simp at hc2
      obtain ⟨x, hx⟩ : ∃ x, cs[j]? = some x := ⟨_, List.getElem?_eq_getElem (by omega)⟩
      have hs1 := (afterE_sum (es := []) .nil ((hist.take i).flatten ++ cs.take j)).1
      have hs2 := chW_take cs j
      have hs3 := chW_mem (List.mem_of_getElem? hx)
      have hs4 : (((hist.take i).flatten ++ cs.take j).map chW).sum ≤ 800000000 := by rw [hsp, List.map_append, List.sum_append, List.map_append, List.sum_append] at hW; rw [List.map_append, List.sum_append]; omega
      have hs5 : sumB ([] : List Pr) = 0 := rfl
      refine Cod.skip ?_
      refine Ex.next ?_
      refine Cod.seq ?_
      refine Cod.block ?_
      refine Cod.seq ?_
      refine Cod.region ?_
      refine Ops.val (opV_indexAddr Fx.sl_39 rfl hAD.sl (k := j) rfl (by omega)) rfl ?_
      refine Ops.val (opV_loadEA Fx.agg_51 rfl hAD.sl (.mem (by repeat (first | exact List.Mem.head _ | apply List.Mem.tail))) (chs_get hx) rfl (by decide)) rfl ?_
      refine Ops.eff rfl (opE_alloc Fx.zero_51) rfl ?_
      rintro _ _ ⟨b13, rfl, rfl⟩
      refine Ops.st rfl (opS_storeA Fx.agg_51 rfl rfl rfl (by (try simp only [putAt]); simp only [List.mem_cons, List.not_mem_nil, or_false]; (try simp only [forall_eq_or_imp]); (try simp only [forall_eq]); (repeat' apply And.intro) <;> first | rfl | assumption | exact Row.one (by assumption) | exact Sl.one (by assumption)) rfl (by repeat (first | exact Upd.hd | apply Upd.tl)) rfl) ?_
      refine Ops.nil ?_
      refine Ex.next ?_
      refine Cod.region ?_
      refine Ops.val (opV_move rfl) rfl ?_
      refine Ops.val (opV_loadW Fx.agg_51 rfl (.mem (by repeat (first | exact List.Mem.head _ | apply List.Mem.tail))) (List.Mem.head _) rfl) rfl ?_
      refine Ops.call rfl (opC_call Fx.cal_71 rfl (fun w hw => apply_spec (by omega) (by omega) (afterE_nodup (es := []) .nil _) hw (by repeat (first | exact Pick.hd | apply Pick.tl)) hA1)) rfl ?_
      rintro v48 _ ⟨rfl, A2, hA2, rfl⟩
      refine Ops.nil ?_
      refine Ex.blockNormal ?_
      refine Ex.next ?_
      refine Cod.region ?_
      refine Ops.val (opV_add64 rfl rfl (by omega)) rfl ?_
      refine Ops.val (opV_move rfl) rfl ?_
      refine Ops.nil ?_
      refine Ex.toN (fun _ _ hs => ⟨(j + 1, A2), ⟨by dsimp only; omega, by rw [List.take_add_one, hx, ← List.append_assoc]; rw [show (some x).toList = [x] from rfl]; rw [afterE_snoc]; exact hA2⟩, (by first | omega | (dsimp only; omega) | (simp; omega) | (simp; done)), hs⟩) (by repeat (first | exact trivial | refine ⟨rfl, ?_⟩)) (fun _ h => h.subs (by first | ((repeat (first | exact Sub.refl | exact Sub.nil | apply Sub.emp | (apply Sub.cons; focus ((repeat (first | exact Pick.hd | apply Pick.tl)); done)) | (apply Sub.con; focus ((repeat (first | exact Pick.hd | apply Pick.tl)); done)) | (apply Sub.app; focus ((repeat (first | exact Pick.hd | apply Pick.tl)); done)) | apply Sub.drop)); done) | ((repeat (first | rw [List.append_assoc] | rw [List.cons_append] | rw [List.nil_append] | rw [List.append_nil])); (repeat (first | exact Sub.refl | exact Sub.nil | apply Sub.emp | (apply Sub.cons; focus ((repeat (first | exact Pick.hd | apply Pick.tl)); done)) | (apply Sub.con; focus ((repeat (first | exact Pick.hd | apply Pick.tl)); done)) | (apply Sub.app; focus ((repeat (first | exact Pick.hd | apply Pick.tl)); done)) | apply Sub.drop)); done)))
    · try simp at hc2
      obtain rfl : j = cs.length := by omega
      rw [List.take_length] at hA1
      refine Cod.exit ?_
      refine Ex.thenExit ?_
      refine Ex.thenExit ?_
      refine Ex.blockHit ?_
      refine Ex.blockNormal ?_
      refine Ex.next ?_
      refine Cod.region ?_
      refine Ops.val (opV_add64 rfl rfl (by omega)) rfl ?_
      refine Ops.val (opV_move rfl) rfl ?_
      refine Ops.nil ?_
      refine Ex.toN (fun _ _ hs => ⟨(i + 1, A1), ⟨by dsimp only; omega, by rw [List.take_add_one, hcs]; simpa using hA1⟩, (by first | omega | (dsimp only; omega) | (simp; omega) | (simp; done)), hs⟩) (by repeat (first | exact trivial | refine ⟨rfl, ?_⟩)) (fun _ h => h.subs (by first | ((repeat (first | exact Sub.refl | exact Sub.nil | apply Sub.emp | (apply Sub.cons; focus ((repeat (first | exact Pick.hd | apply Pick.tl)); done)) | (apply Sub.con; focus ((repeat (first | exact Pick.hd | apply Pick.tl)); done)) | (apply Sub.app; focus ((repeat (first | exact Pick.hd | apply Pick.tl)); done)) | apply Sub.drop)); done) | ((repeat (first | rw [List.append_assoc] | rw [List.cons_append] | rw [List.nil_append] | rw [List.append_nil])); (repeat (first | exact Sub.refl | exact Sub.nil | apply Sub.emp | (apply Sub.cons; focus ((repeat (first | exact Pick.hd | apply Pick.tl)); done)) | (apply Sub.con; focus ((repeat (first | exact Pick.hd | apply Pick.tl)); done)) | (apply Sub.app; focus ((repeat (first | exact Pick.hd | apply Pick.tl)); done)) | apply Sub.drop)); done)))
  · try simp at hc
    obtain rfl : i = (hist.map encF).length := by omega
    rw [List.take_of_length_le (by omega), hfin] at hA1
    refine Cod.exit ?_
    refine Ex.thenExit ?_
    refine Ex.thenExit ?_
    refine Ex.blockHit ?_
    refine Ex.next ?_
    refine Cod.seq ?_
    refine Cod.region ?_
    refine Ops.val (opV_move rfl) rfl ?_
    refine Ops.val (opV_assign rfl) rfl ?_
    refine Ops.val (opV_assign rfl) rfl ?_
    refine Ops.nil ?_
    refine Ex.next ?_
    refine Cod.ret ?_
    exact Ex.ret2 rfl rfl rfl (fun _ h => h.subs (by first | ((repeat (first | exact Sub.refl | exact Sub.nil | apply Sub.emp | (apply Sub.cons; focus ((repeat (first | exact Pick.hd | apply Pick.tl)); done)) | (apply Sub.con; focus ((repeat (first | exact Pick.hd | apply Pick.tl)); done)) | (apply Sub.app; focus ((repeat (first | exact Pick.hd | apply Pick.tl)); done)) | apply Sub.drop)); done) | ((repeat (first | rw [List.append_assoc] | rw [List.cons_append] | rw [List.nil_append] | rw [List.append_nil])); (repeat (first | exact Sub.refl | exact Sub.nil | apply Sub.emp | (apply Sub.cons; focus ((repeat (first | exact Pick.hd | apply Pick.tl)); done)) | (apply Sub.con; focus ((repeat (first | exact Pick.hd | apply Pick.tl)); done)) | (apply Sub.app; focus ((repeat (first | exact Pick.hd | apply Pick.tl)); done)) | apply Sub.drop)); done))) ⟨b26, l, A1, DA1, rfl, hA1, hDA1, rfl⟩
theorem catOpen_old {g : Nat} {hist : List (List Ch)} {data : Str} (hG : Glob e) (hE : Kit.HasErr e) (hr : D.room = 1099511627776) (hg : 1 ≤ g ∧ g ≤ 999999999) (hD0 : D.files = [(fileF catB g, (data, data))]) (hp0 : D.pend = [])
    (hd : data = ((hist.map encF).map wrapped).flatten) (hne : hist ≠ []) (hrl : ∀ x ∈ hist, (encF x).length ≤ 1048576) (hdl : data.length ≤ 800000000) (hH : hist.length ≤ 100000000) (hW : ((hist.flatten).map chW).sum ≤ 800000000)
    (hw : Owns e w As) (hp : Pick As DA F) (hD : DiskA d D DA) :
    Calls Tryz.prog 24 #[.pointer (some ⟨d, 0, none⟩)] w (Ret e (OpenR d (afterE [] hist.flatten) g data.length D F)) := by
  have hu0 : D.used = data.length := by simp [DK.used, hD0, usedF]
  have hgf := good_file (b := catB) (n := g) okCat hg.2
  have hWh : Wh data (hist.map encF) data.length := by
    rw [hd]; exact Wh_recs fun x hx => by obtain ⟨y, hy, rfl⟩ := List.mem_map.1 hx; exact hrl y hy
  have hlk : lkp (fileF catB g) D.files = some (data, data) := by rw [hD0]; simp [lkp]
  have hx1 : ∀ x, (lkp x D.files).isSome = true → x = fileF catB g := fun x hx => by
    rw [hD0] at hx
    by_cases hq : fileF catB g = x
    · exact hq.symm
    · simp [lkp, hq] at hx
  have hins : ({ D with files := ins (fileF catB g) (data.take data.length, data.take data.length) D.files } : DK) = D := by
    rw [List.take_length]
    cases D
    dsimp only at hD0 ⊢
    rw [hD0]; simp [ins]
  have hfin : afterE [] hist.flatten = afterE [] hist.flatten := rfl
  refine enter Tryz.func24 rfl Tryz.ntmps24 hw rfl ?_
  refine Cod.seq ?_
  refine Cod.region ?_
  refine Ops.val (opV_assign rfl) rfl ?_
  refine Ops.val (opV_assign rfl) rfl ?_
  refine Ops.nil ?_
  refine Ex.next ?_
  refine Cod.seq ?_
  refine Cod.region ?_
  refine Ops.val (opV_move rfl) rfl ?_
  refine Ops.call rfl (opC_call Fx.cal_76 rfl (fun w hw => open_spec (base := catB) (g := g) (kk := data.length) (data := data) (safe := data) (recs := hist.map encF) hG hE okCat (fun x hx => by rw [hx1 x hx]; have := hgf.2.1; omega) (by rw [hD0]; simp) (by omega) (by rw [hp0]; simp) (fun x hx => by rw [hp0] at hx; cases hx) (by omega) (fun g' _ _ h => file_inj (hx1 _ h)) (fun _ => ⟨hg.1, hg.2, hlk, hWh, by simpa using hne, hp0⟩) hw hp hD)) rfl ?_
  rintro v16 _ hO
  obtain ⟨l, v8, vs, R8, A8, DA1, rfl, hR8, hBL, hDA1, rfl⟩ : ∃ l v8 vs R8 A8 DA1, v16 = .tuple #[.pointer (some ⟨l, 0, none⟩), v8, .int .i64 0] ∧ Row 29 1 v8 (hist.map encF).length vs R8 ∧ BL A8 vs (hist.map encF) ∧ DiskA d D DA1 ∧ _ = DA1 :: logB l d catB g data.length :: R8 :: A8 :: F := by
      rcases hO with ⟨_, l, v8, vs, R8, A8, A', h1, h2, h3, h4, h5⟩ | ⟨h, _⟩ | ⟨h, _⟩
      · rw [hins] at h4; exact ⟨l, v8, vs, R8, A8, A', h1, h2, h3, h4, h5⟩
      · omega
      · omega
  refine Ops.val (opV_move rfl) rfl ?_
  refine Ops.val (opV_extract rfl rfl) rfl ?_
  refine Ops.val (opV_extract rfl rfl) rfl ?_
  refine Ops.val (opV_extract rfl rfl) rfl ?_
  refine Ops.val (opV_assign rfl) rfl ?_
  refine Ops.val (opV_assign rfl) rfl ?_
  refine Ops.val (opV_assign rfl) rfl ?_
  refine Ops.nil ?_
  refine Ex.next ?_
  refine Cod.seq ?_
  refine Cod.seq ?_
  refine Cod.region ?_
  refine Ops.val (opV_move rfl) rfl ?_
  refine Ops.val (opV_neq rfl rfl (by first | exact decide_eq_true (by omega) | exact decide_eq_false (by omega) | rfl)) rfl ?_
  refine Ops.nil ?_
  refine Ex.next ?_
  refine Cod.condF rfl ?_
  refine Cod.skip ?_
  refine Ex.next ?_
  refine Cod.seq ?_
  refine Cod.region ?_
  refine Ops.val (opV_move rfl) rfl ?_
  refine Ops.eff rfl opE_makeMap rfl ?_
  rintro _ _ ⟨b24, rfl, rfl⟩
  refine Ops.val (opV_build Fx.st_154 rfl (by first | (simp [fillL, vcells, putAt]; rfl) | (simp [fillL, vcells, putAt]; done) | rfl)) rfl ?_
  refine Ops.eff rfl (opE_box rfl) rfl ?_
  rintro _ _ ⟨b26, rfl, rfl⟩
  refine Ops.val (opV_assign rfl) rfl ?_
  refine Ops.nil ?_
  refine Ex.next ?_
  refine Cod.seq ?_
  refine Cod.seq ?_
  refine Cod.region ?_
  refine Ops.val (opV_move rfl) rfl ?_
  refine Ops.val (opV_len Fx.sl_22 rfl hR8.isSlice) rfl ?_
  have hhl : hist.length = (hist.map encF).length := by simp
  refine Ops.val (opV_move rfl) rfl ?_
  refine Ops.nil ?_
  refine Ex.next ?_
  refine Cod.block ?_
  refine Cod.loop (X := Nat × Hp) (fun (i, A1) => [(7, .pointer (some ⟨b26, 0, none⟩)), (27, v8), (28, .int .i64 (hist.map encF).length), (29, .int .i64 (i : Int))]) (fun (i, A1) => A1 :: DA1 :: logB l d catB g data.length :: R8 :: A8 :: F) (fun (i, A1) => i ≤ (hist.map encF).length ∧ CatM b26 (.pointer (some ⟨l, 0, none⟩)) (afterE [] (hist.take i).flatten) A1) (fun (i, A1) => (hist.map encF).length - i) ((0, (b26, .cells #[.pointer (some ⟨l, 0, none⟩), .map (some b24), .int .i64 0] 154) :: [(b24, .map #[] 0)])) (⟨Nat.zero_le _, b24, .map #[] 0, MapO.new rfl, rfl⟩) (by repeat (first | exact trivial | refine ⟨rfl, ?_⟩)) (fun _ h => h.subs (by first | ((repeat (first | exact Sub.refl | exact Sub.nil | apply Sub.emp | (apply Sub.cons; focus ((repeat (first | exact Pick.hd | apply Pick.tl)); done)) | (apply Sub.con; focus ((repeat (first | exact Pick.hd | apply Pick.tl)); done)) | (apply Sub.app; focus ((repeat (first | exact Pick.hd | apply Pick.tl)); done)) | apply Sub.drop)); done) | ((repeat (first | rw [List.append_assoc] | rw [List.cons_append] | rw [List.nil_append] | rw [List.append_nil])); (repeat (first | exact Sub.refl | exact Sub.nil | apply Sub.emp | (apply Sub.cons; focus ((repeat (first | exact Pick.hd | apply Pick.tl)); done)) | (apply Sub.con; focus ((repeat (first | exact Pick.hd | apply Pick.tl)); done)) | (apply Sub.app; focus ((repeat (first | exact Pick.hd | apply Pick.tl)); done)) | apply Sub.drop)); done))) ?_
  rintro ⟨i, A1⟩ ⟨hi, hA1⟩
  try dsimp only
  refine Cod.seq ?_
  refine Cod.region ?_
  refine Ops.val (opV_lss rfl rfl (by first | exact decide_eq_true (by omega) | exact decide_eq_false (by omega) | rfl)) rfl ?_
  refine Ops.nil ?_
  refine Ex.next ?_
  refine Cod.seq ?_
  refine Cod.cond rfl (fun hc => ?_) (fun hc => ?_)
  · try simp at hc
    obtain ⟨cs, hcs⟩ : ∃ x, hist[i]? = some x := ⟨_, List.getElem?_eq_getElem (by omega)⟩
    have hrec : (hist.map encF)[i]? = some (encF cs) := by rw [List.getElem?_map, hcs]; rfl
    obtain ⟨rv, hrv, hrs⟩ := hBL.get hrec
    have hsp := hist_split hcs
    have hcl : (cs.map chW).sum ≤ 800000000 := by rw [hsp, List.map_append, List.sum_append, List.map_append, List.sum_append] at hW; omega
    have hel := encF_len cs
    have hn9 := len_chW cs
    refine Cod.skip ?_
    refine Ex.next ?_
    refine Cod.seq ?_
    refine Cod.block ?_
    refine Cod.seq ?_
    refine Cod.region ?_
    refine Ops.val (opV_indexAddr Fx.sl_22 rfl hR8.sl (k := i) rfl (by omega)) rfl ?_
    refine Ops.val (opV_loadE Fx.scal_29 rfl hR8.sl (.mem (by repeat (first | exact List.Mem.head _ | apply List.Mem.tail))) (by rw [Nat.mul_one]; exact hrv)) rfl ?_
    refine Ops.val (opV_assign rfl) rfl ?_
    refine Ops.nil ?_
    refine Ex.next ?_
    refine Cod.seq ?_
    refine Cod.region ?_
    refine Ops.val (opV_move rfl) rfl ?_
    refine Ops.call rfl (opC_call Fx.cal_77 rfl (fun w hw => decode_spec (cs := cs) rfl (by omega) hw (A := A8) (.mem (by repeat (first | exact List.Mem.head _ | apply List.Mem.tail))) hrs)) rfl ?_
    rintro v35 _ ⟨vd, AD, rfl, hAD, rfl⟩
    refine Ops.val (opV_move rfl) rfl ?_
    refine Ops.val (opV_extract rfl rfl) rfl ?_
    refine Ops.val (opV_extract rfl rfl) rfl ?_
    refine Ops.val (opV_assign rfl) rfl ?_
    refine Ops.val (opV_assign rfl) rfl ?_
    refine Ops.nil ?_
    refine Ex.next ?_
    refine Cod.seq ?_
    refine Cod.seq ?_
    refine Cod.region ?_
    refine Ops.val (opV_move rfl) rfl ?_
    refine Ops.val (opV_not rfl) rfl ?_
    refine Ops.nil ?_
    refine Ex.next ?_
    refine Cod.condF rfl ?_
    refine Cod.skip ?_
    refine Ex.next ?_
    refine Cod.seq ?_
    refine Cod.region ?_
    refine Ops.val (opV_move rfl) rfl ?_
    refine Ops.val (opV_len Fx.sl_39 rfl hAD.isSlice) rfl ?_
    refine Ops.val (opV_move rfl) rfl ?_
    refine Ops.nil ?_
    refine Ex.next ?_
    refine Cod.block ?_
    refine Cod.loop (X := Nat × Hp) (fun (j, A1) => [(7, .pointer (some ⟨b26, 0, none⟩)), (27, v8), (28, .int .i64 (hist.map encF).length), (29, .int .i64 (i : Int)), (40, vd), (41, .int .i64 cs.length), (42, .int .i64 (j : Int))]) (fun (j, A1) => A1 :: AD :: DA1 :: logB l d catB g data.length :: R8 :: A8 :: F) (fun (j, A1) => j ≤ cs.length ∧ CatM b26 (.pointer (some ⟨l, 0, none⟩)) (afterE [] ((hist.take i).flatten ++ cs.take j)) A1) (fun (j, A1) => cs.length - j) ((0, A1)) (⟨Nat.zero_le _, by simpa using hA1⟩) (by repeat (first | exact trivial | refine ⟨rfl, ?_⟩)) (fun _ h => h.subs (by first | ((repeat (first | exact Sub.refl | exact Sub.nil | apply Sub.emp | (apply Sub.cons; focus ((repeat (first | exact Pick.hd | apply Pick.tl)); done)) | (apply Sub.con; focus ((repeat (first | exact Pick.hd | apply Pick.tl)); done)) | (apply Sub.app; focus ((repeat (first | exact Pick.hd | apply Pick.tl)); done)) | apply Sub.drop)); done) | ((repeat (first | rw [List.append_assoc] | rw [List.cons_append] | rw [List.nil_append] | rw [List.append_nil])); (repeat (first | exact Sub.refl | exact Sub.nil | apply Sub.emp | (apply Sub.cons; focus ((repeat (first | exact Pick.hd | apply Pick.tl)); done)) | (apply Sub.con; focus ((repeat (first | exact Pick.hd | apply Pick.tl)); done)) | (apply Sub.app; focus ((repeat (first | exact Pick.hd | apply Pick.tl)); done)) | apply Sub.drop)); done))) ?_
    rintro ⟨j, A1⟩ ⟨hj, hA1⟩
    try dsimp only
    refine Cod.seq ?_
    refine Cod.region ?_
    refine Ops.val (opV_lss rfl rfl (by first | exact decide_eq_true (by omega) | exact decide_eq_false (by omega) | rfl)) rfl ?_
    refine Ops.nil ?_
    refine Ex.next ?_
    refine Cod.seq ?_
    refine Cod.cond rfl (fun hc2 => ?_) (fun hc2 => ?_)
    · try simp at hc2
      obtain ⟨x, hx⟩ : ∃ x, cs[j]? = some x := ⟨_, List.getElem?_eq_getElem (by omega)⟩
      have hs1 := (afterE_sum (es := []) .nil ((hist.take i).flatten ++ cs.take j)).1
      have hs2 := chW_take cs j
      have hs3 := chW_mem (List.mem_of_getElem? hx)
      have hs4 : (((hist.take i).flatten ++ cs.take j).map chW).sum ≤ 800000000 := by rw [hsp, List.map_append, List.sum_append, List.map_append, List.sum_append] at hW; rw [List.map_append, List.sum_append]; omega
      have hs5 : sumB ([] : List Pr) = 0 := rfl
      refine Cod.skip ?_
      refine Ex.next ?_
      refine Cod.seq ?_
      refine Cod.block ?_
      refine Cod.seq ?_
      refine Cod.region ?_
      refine Ops.val (opV_indexAddr Fx.sl_39 rfl hAD.sl (k := j) rfl (by omega)) rfl ?_
      refine Ops.val (opV_loadEA Fx.agg_51 rfl hAD.sl (.mem (by repeat (first | exact List.Mem.head _ | apply List.Mem.tail))) (chs_get hx) rfl (by decide)) rfl ?_
      refine Ops.eff rfl (opE_alloc Fx.zero_51) rfl ?_
      rintro _ _ ⟨b13, rfl, rfl⟩
      refine Ops.st rfl (opS_storeA Fx.agg_51 rfl rfl rfl (by (try simp only [putAt]); simp only [List.mem_cons, List.not_mem_nil, or_false]; (try simp only [forall_eq_or_imp]); (try simp only [forall_eq]); (repeat' apply And.intro) <;> first | rfl | assumption | exact Row.one (by assumption) | exact Sl.one (by assumption)) rfl (by repeat (first | exact Upd.hd | apply Upd.tl)) rfl) ?_
      refine Ops.nil ?_
      refine Ex.next ?_
      refine Cod.region ?_
      refine Ops.val (opV_move rfl) rfl ?_
      refine Ops.val (opV_loadW Fx.agg_51 rfl (.mem (by repeat (first | exact List.Mem.head _ | apply List.Mem.tail))) (List.Mem.head _) rfl) rfl ?_
      refine Ops.call rfl (opC_call Fx.cal_71 rfl (fun w hw => apply_spec (by omega) (by omega) (afterE_nodup (es := []) .nil _) hw (by repeat (first | exact Pick.hd | apply Pick.tl)) hA1)) rfl ?_
      rintro v48 _ ⟨rfl, A2, hA2, rfl⟩
      refine Ops.nil ?_
      refine Ex.blockNormal ?_
      refine Ex.next ?_
      refine Cod.region ?_
      refine Ops.val (opV_add64 rfl rfl (by omega)) rfl ?_
      refine Ops.val (opV_move rfl) rfl ?_
      refine Ops.nil ?_
      refine Ex.toN (fun _ _ hs => ⟨(j + 1, A2), ⟨by dsimp only; omega, by rw [List.take_add_one, hx, ← List.append_assoc]; rw [show (some x).toList = [x] from rfl]; rw [afterE_snoc]; exact hA2⟩, (by first | omega | (dsimp only; omega) | (simp; omega) | (simp; done)), hs⟩) (by repeat (first | exact trivial | refine ⟨rfl, ?_⟩)) (fun _ h => h.subs (by first | ((repeat (first | exact Sub.refl | exact Sub.nil | apply Sub.emp | (apply Sub.cons; focus ((repeat (first | exact Pick.hd | apply Pick.tl)); done)) | (apply Sub.con; focus ((repeat (first | exact Pick.hd | apply Pick.tl)); done)) | (apply Sub.app; focus ((repeat (first | exact Pick.hd | apply Pick.tl)); done)) | apply Sub.drop)); done) | ((repeat (first | rw [List.append_assoc] | rw [List.cons_append] | rw [List.nil_append] | rw [List.append_nil])); (repeat (first | exact Sub.refl | exact Sub.nil | apply Sub.emp | (apply Sub.cons; focus ((repeat (first | exact Pick.hd | apply Pick.tl)); done)) | (apply Sub.con; focus ((repeat (first | exact Pick.hd | apply Pick.tl)); done)) | (apply Sub.app; focus ((repeat (first | exact Pick.hd | apply Pick.tl)); done)) | apply Sub.drop)); done)))
    · try simp at hc2
      obtain rfl : j = cs.length := by omega
      rw [List.take_length] at hA1
      refine Cod.exit ?_
      refine Ex.thenExit ?_
      refine Ex.thenExit ?_
      refine Ex.blockHit ?_
      refine Ex.blockNormal ?_
      refine Ex.next ?_
      refine Cod.region ?_
      refine Ops.val (opV_add64 rfl rfl (by omega)) rfl ?_
      refine Ops.val (opV_move rfl) rfl ?_
      refine Ops.nil ?_
      refine Ex.toN (fun _ _ hs => ⟨(i + 1, A1), ⟨by dsimp only; omega, by rw [List.take_add_one, hcs]; simpa using hA1⟩, (by first | omega | (dsimp only; omega) | (simp; omega) | (simp; done)), hs⟩) (by repeat (first | exact trivial | refine ⟨rfl, ?_⟩)) (fun _ h => h.subs (by first | ((repeat (first | exact Sub.refl | exact Sub.nil | apply Sub.emp | (apply Sub.cons; focus ((repeat (first | exact Pick.hd | apply Pick.tl)); done)) | (apply Sub.con; focus ((repeat (first | exact Pick.hd | apply Pick.tl)); done)) | (apply Sub.app; focus ((repeat (first | exact Pick.hd | apply Pick.tl)); done)) | apply Sub.drop)); done) | ((repeat (first | rw [List.append_assoc] | rw [List.cons_append] | rw [List.nil_append] | rw [List.append_nil])); (repeat (first | exact Sub.refl | exact Sub.nil | apply Sub.emp | (apply Sub.cons; focus ((repeat (first | exact Pick.hd | apply Pick.tl)); done)) | (apply Sub.con; focus ((repeat (first | exact Pick.hd | apply Pick.tl)); done)) | (apply Sub.app; focus ((repeat (first | exact Pick.hd | apply Pick.tl)); done)) | apply Sub.drop)); done)))
  · try simp at hc
    obtain rfl : i = (hist.map encF).length := by omega
    rw [List.take_of_length_le (by omega), hfin] at hA1
    refine Cod.exit ?_
    refine Ex.thenExit ?_
    refine Ex.thenExit ?_
    refine Ex.blockHit ?_
    refine Ex.next ?_
    refine Cod.seq ?_
    refine Cod.region ?_
    refine Ops.val (opV_move rfl) rfl ?_
    refine Ops.val (opV_assign rfl) rfl ?_
    refine Ops.val (opV_assign rfl) rfl ?_
    refine Ops.nil ?_
    refine Ex.next ?_
    refine Cod.ret ?_
    exact Ex.ret2 rfl rfl rfl (fun _ h => h.subs (by first | ((repeat (first | exact Sub.refl | exact Sub.nil | apply Sub.emp | (apply Sub.cons; focus ((repeat (first | exact Pick.hd | apply Pick.tl)); done)) | (apply Sub.con; focus ((repeat (first | exact Pick.hd | apply Pick.tl)); done)) | (apply Sub.app; focus ((repeat (first | exact Pick.hd | apply Pick.tl)); done)) | apply Sub.drop)); done) | ((repeat (first | rw [List.append_assoc] | rw [List.cons_append] | rw [List.nil_append] | rw [List.append_nil])); (repeat (first | exact Sub.refl | exact Sub.nil | apply Sub.emp | (apply Sub.cons; focus ((repeat (first | exact Pick.hd | apply Pick.tl)); done)) | (apply Sub.con; focus ((repeat (first | exact Pick.hd | apply Pick.tl)); done)) | (apply Sub.app; focus ((repeat (first | exact Pick.hd | apply Pick.tl)); done)) | apply Sub.drop)); done))) ⟨b26, l, A1, DA1, rfl, hA1, hDA1, rfl⟩
end
end Go.Proofs.YteejmoldhbfdnaaGreatDoor.Cat4
