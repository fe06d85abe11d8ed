/- Package disk: Sync, Cut. -/
import Derived.Test.YteejmoldhbfdnaaGreatDoorDisk
namespace Go.Proofs.YteejmoldhbfdnaaGreatDoor.Disk
open Go.W
/-- Each file that waits is safe. -/
def syncF : List (Str × Nat × Str) → List (Str × (Str × Str)) → List (Str × (Str × Str))
  | [], fs => fs
  | (nm, _, _) :: ws, fs => syncF ws (match lkp nm fs with | some (d, _) => ins nm (d, d) fs | none => fs)
def DK.sync (D : DK) : DK := { D with files := syncF D.pend D.files, pend := [] }
end Go.Proofs.YteejmoldhbfdnaaGreatDoor.Disk
namespace Go.Proofs.YteejmoldhbfdnaaGreatDoor.Disk2
open Go.W Go.RowKit Lib1 Oct OctR Disk
namespace Fx
theorem agg_166 : aggSz Tryz.prog 166 = some 3 := by kernel_rfl
theorem cal_212 : callable Tryz.prog 212 = true := by kernel_rfl
theorem cal_61 : callable Tryz.prog 61 = true := by kernel_rfl
theorem fld_144_0 : fieldOff Tryz.prog 144 0 = some 0 := by kernel_rfl
theorem fld_144_1 : fieldOff Tryz.prog 144 1 = some 1 := by kernel_rfl
theorem fld_144_3 : fieldOff Tryz.prog 144 3 = some 3 := by kernel_rfl
theorem fld_163_0 : fieldOff Tryz.prog 163 0 = some 0 := by kernel_rfl
theorem fld_163_1 : fieldOff Tryz.prog 163 1 = some 1 := by kernel_rfl
theorem fld_166_0 : fieldOff Tryz.prog 166 0 = some 0 := by kernel_rfl
theorem map_141 : mapInfo Tryz.prog 141 = some (.string, (.pointer none)) := by kernel_rfl
theorem ptr_161 : ptrT Tryz.prog 161 = true := by kernel_rfl
theorem scal_141 : scalarB Tryz.prog 141 = true := by kernel_rfl
theorem scal_142 : scalarB Tryz.prog 142 = true := by kernel_rfl
theorem scal_29 : scalarB Tryz.prog 29 = true := by kernel_rfl
theorem scal_3 : scalarB Tryz.prog 3 = true := by kernel_rfl
theorem scal_9 : scalarB Tryz.prog 9 = true := by kernel_rfl
theorem sl_142 : slInfo Tryz.prog 142 = some (166, 3, 48, some (.agg #[(S []), (.int .i64 0), (.slice none 0 0)])) := by kernel_rfl
theorem sl_29 : slInfo Tryz.prog 29 = some (5, 1, 1, some (.int .u8 0)) := by kernel_rfl
theorem sz1_142 : (Tryz.prog.info? 142).map (·.size) = some 1 := by kernel_rfl
theorem sz1_29 : (Tryz.prog.info? 29).map (·.size) = some 1 := by kernel_rfl
theorem sz1_3 : (Tryz.prog.info? 3).map (·.size) = some 1 := by kernel_rfl
theorem zero_166 : (Tryz.prog.info? 166).bind (·.zero) = some (.agg #[(S []), (.int .i64 0), (.slice none 0 0)]) := by kernel_rfl

end Fx
section
variable {e : Ctx} {w : World} {As F : List Hp} {A B : Hp} {p : Nat} {nm b : Str} {v : Value} {D : DK}
theorem sync_spec (hall : ∀ x ∈ D.pend, (lkp x.1 D.files).isSome = true) (hu : D.used ≤ 1000000000) (hn : D.pend.length ≤ 100000000) (hw : Owns e w As) (hp : Pick As A F) (hD : DiskA p D A) :
    Calls Tryz.prog 38 #[.pointer (some ⟨p, 0, none⟩)] w (Ret e fun u Bs => u = .tuple #[] ∧ ∃ A', DiskA p D.sync A' ∧ usedF D.sync.files = usedF D.files ∧ Bs = A' :: F) := by
  obtain ⟨mb, ob, pv, ps, FA, PR, PA, kvs, hM, hF, hR, hP, rfl⟩ := hD
  have hall' : ∀ x ∈ D.pend, ∃ v, lkp x.1 kvs = some v := fun x hx => by
    obtain ⟨y, hy⟩ := Option.isSome_iff_exists.1 (hall x hx)
    exact hF.kv hy
  refine enter Tryz.func38 rfl Tryz.ntmps38 (Owns.disk (hw.pick hp)) rfl ?_
  refine Cod.seq ?_
  refine Cod.seq ?_
  refine Cod.region ?_
  refine Ops.val (opV_move rfl) rfl ?_
  refine Ops.val (opV_nil rfl) rfl ?_
  refine Ops.val (opV_field Fx.fld_144_1 rfl) rfl ?_
  refine Ops.val (opV_load Fx.scal_142 rfl (by repeat (first | exact Cell.one rfl | assumption | apply Cell.tl))) rfl ?_
  refine Ops.val (opV_len Fx.sl_142 rfl (by first | exact ⟨_, _, rfl⟩ | exact Sl.isSlice (by assumption) | exact (Row.sl (by assumption)).isSlice)) rfl ?_
  refine Ops.val (opV_move rfl) rfl ?_
  refine Ops.nil ?_
  refine Ex.next ?_
  refine Cod.block ?_
  refine Cod.loop (X := Nat × List (Str × (Str × Str)) × Hp) (fun (i, fs, FA) => [(0, .pointer (some ⟨p, 0, none⟩)), (8, pv), (9, .int .i64 D.pend.length), (10, .int .i64 (i : Int))]) (fun (i, fs, FA) => [(p, .cells #[.map (some mb), pv, .int .i64 D.room, .int .i64 (D.used : Int)] 144)] :: [(mb, ob)] :: PR :: PA :: FA :: F) (fun (i, fs, FA) => i ≤ D.pend.length ∧ syncF (D.pend.drop i) fs = syncF D.pend D.files ∧ Files kvs fs FA ∧ usedF fs = usedF D.files) (fun (i, fs, FA) => D.pend.length - i) ((0, D.files, FA)) (⟨Nat.zero_le _, rfl, hF, rfl⟩) (by repeat (first | exact trivial | refine ⟨rfl, ?_⟩)) (fun _ h => h.subs (by first | ((repeat (first | exact Sub.refl | exact Sub.nil | apply Sub.emp | (apply Sub.cons; focus ((repeat (first | exact Pick.hd | apply Pick.tl)); done)) | (apply Sub.con; focus ((repeat (first | exact Pick.hd | apply Pick.tl)); done)) | (apply Sub.app; focus ((repeat (first | exact Pick.hd | apply Pick.tl)); done)) | apply Sub.drop)); done) | ((repeat (first | rw [List.append_assoc] | rw [List.cons_append] | rw [List.nil_append] | rw [List.append_nil])); (repeat (first | exact Sub.refl | exact Sub.nil | apply Sub.emp | (apply Sub.cons; focus ((repeat (first | exact Pick.hd | apply Pick.tl)); done)) | (apply Sub.con; focus ((repeat (first | exact Pick.hd | apply Pick.tl)); done)) | (apply Sub.app; focus ((repeat (first | exact Pick.hd | apply Pick.tl)); done)) | apply Sub.drop)); done))) ?_
  rintro ⟨i, fs, FA1⟩ ⟨hi, hsy, hF1, hu1⟩
  try dsimp only
  refine Cod.seq ?_
  refine Cod.region ?_
  refine Ops.val (opV_lss rfl rfl (by first | exact decide_eq_true (by omega) | exact decide_eq_false (by omega) | rfl)) rfl ?_
  refine Ops.nil ?_
  refine Ex.next ?_
  refine Cod.seq ?_
  refine Cod.cond rfl (fun hc => ?_) (fun hc => ?_)
  · try simp at hc
    obtain ⟨⟨nm, at_, b⟩, hx⟩ : ∃ x, D.pend[i]? = some x := ⟨_, List.getElem?_eq_getElem (by omega)⟩
    obtain ⟨bv, hg, hbv⟩ := hP.get hx
    obtain ⟨fv, hkv⟩ := hall' _ (List.mem_of_getElem? hx)
    dsimp only at hkv
    obtain ⟨fb, dv, sv, data, safe, R1, R2, FA', rfl, hk', hd, hs, hown, hput, _⟩ := hF1.get (e := e) hkv
    have hdu := usedF_le hk'
    have hu2 : usedF D.files ≤ 1000000000 := hu
    refine Cod.skip ?_
    refine Ex.next ?_
    refine Cod.seq ?_
    refine Cod.block ?_
    refine Cod.seq ?_
    refine Cod.region ?_
    refine Ops.val (opV_indexAddr Fx.sl_142 rfl hR.sl (k := i) rfl (by omega)) rfl ?_
    refine Ops.val (opV_loadEA Fx.agg_166 rfl hR.sl (.mem (by repeat (first | exact List.Mem.head _ | apply List.Mem.tail))) hg rfl (by decide)) rfl ?_
    refine Ops.eff rfl (opE_alloc Fx.zero_166) rfl ?_
    rintro _ _ ⟨b3, rfl, rfl⟩
    refine Ops.st rfl (opS_storeA Fx.agg_166 rfl rfl rfl (by (try simp only [putAt]); simp only [List.mem_cons, List.not_mem_nil, or_false, forall_eq_or_imp, forall_eq]; (repeat' apply And.intro) <;> first | rfl | assumption | exact Row.one (by assumption) | exact Sl.one (by assumption)) rfl (by repeat (first | exact Upd.hd | apply Upd.tl)) rfl) ?_
    refine Ops.nil ?_
    refine Ex.next ?_
    refine Cod.seq ?_
    refine Cod.draw0 [3, 5, 6] [0, 1, 2, 4, 7] [0, 1, 2, 3, 4, 5, 6, 7] M.mixed (by kernel_rfl) ?_
    refine AnyJ.valU rfl rfl rfl (opV_move rfl) rfl (fun _ _ _ h => h.2.elim) ?_
    refine AnyJ.valU rfl rfl rfl (opV_nil rfl) rfl (fun _ _ _ h => h.2.elim) ?_
    refine AnyJ.valU rfl rfl rfl (opV_field Fx.fld_144_0 rfl) rfl (fun _ _ _ h => h.2.elim) ?_
    refine AnyJ.val rfl rfl (opV_load Fx.scal_141 rfl (by repeat (first | exact Cell.one rfl | assumption | apply Cell.tl))) rfl (fun _ _ _ h => h.2.elim) (fun _ h => h) ?_
    refine AnyJ.valU rfl rfl rfl (opV_field Fx.fld_166_0 rfl) rfl (fun _ _ _ h => h.2.elim) ?_
    refine AnyJ.val rfl rfl (opV_load Fx.scal_9 rfl (by repeat (first | exact Cell.one rfl | assumption | apply Cell.tl))) rfl (fun _ _ _ h => h.2.elim) (fun _ h => h) ?_
    refine AnyJ.val rfl rfl (opV_lookup (κ := Str) Fx.map_141 rfl rfl (.mem (by repeat (first | exact List.Mem.head _ | apply List.Mem.tail))) (List.Mem.head _) hM) rfl (fun _ _ _ h => h.2.elim) (fun _ h => h) ?_
    rw [hkv]
    refine AnyJ.valU rfl rfl rfl (opV_assign rfl) rfl (fun _ _ _ h => h.2.elim) ?_
    refine AnyJ.nil ?_
    refine Ex.next ?_
    refine Cod.heap (fun _ h => hown _ _ (h.pick (A := FA1) (by repeat (first | exact Pick.hd | apply Pick.tl)))) ?_
    refine Cod.region ?_
    refine Ops.val (opV_move rfl) rfl ?_
    refine Ops.val (opV_move rfl) rfl ?_
    refine Ops.val (opV_nil rfl) rfl ?_
    refine Ops.val (opV_field Fx.fld_163_0 rfl) rfl ?_
    refine Ops.val (opV_load Fx.scal_29 rfl (by repeat (first | exact Cell.one rfl | assumption | apply Cell.tl))) rfl ?_
    refine Ops.call rfl (opC_call Fx.cal_61 rfl (fun w hw => clone_bytes hw hd.sl (.mem (by repeat (first | exact List.Mem.head _ | apply List.Mem.tail))) (bcells_one _) (by omega) (by omega))) rfl ?_
    rintro v26 _ ⟨A26, hA26, rfl⟩
    have hui := usedF_ins (d' := data) (s' := data) hk'
    refine Ops.val (opV_nil rfl) rfl ?_
    refine Ops.val (opV_field Fx.fld_163_1 rfl) rfl ?_
    refine Ops.st rfl (opS_store Fx.scal_29 Fx.sz1_29 rfl rfl (by first | rfl | assumption | exact Row.one (by assumption) | exact Sl.one (by assumption)) rfl (by repeat (first | exact Upd.hd | apply Upd.tl)) (by repeat (first | exact LSet.hd | apply LSet.tl))) ?_
    refine Ops.nil ?_
    refine Ex.blockNormal ?_
    refine Ex.next ?_
    refine Cod.region ?_
    refine Ops.val (opV_add64 rfl rfl (by omega)) rfl ?_
    refine Ops.val (opV_move rfl) rfl ?_
    refine Ops.nil ?_
    refine Ex.toN (fun _ _ hs => ⟨(i + 1, ins nm (data, data) fs, _), ⟨by dsimp only; omega, by rw [← hsy, List.drop_eq_getElem_cons (show i < D.pend.length by omega), (List.getElem?_eq_some_iff.1 hx).2]; simp only [syncF, hk'], hput _ _ _ _ _ _ hd hA26, by dsimp only; omega⟩, (by first | omega | (dsimp only; omega) | (simp; omega) | (simp; done)), hs⟩) (by repeat (first | exact trivial | refine ⟨rfl, ?_⟩)) (fun _ h => h.subs (by first | ((repeat (first | exact Sub.refl | exact Sub.nil | apply Sub.emp | (apply Sub.cons; focus ((repeat (first | exact Pick.hd | apply Pick.tl)); done)) | (apply Sub.con; focus ((repeat (first | exact Pick.hd | apply Pick.tl)); done)) | (apply Sub.app; focus ((repeat (first | exact Pick.hd | apply Pick.tl)); done)) | apply Sub.drop)); done) | ((repeat (first | rw [List.append_assoc] | rw [List.cons_append] | rw [List.nil_append] | rw [List.append_nil])); (repeat (first | exact Sub.refl | exact Sub.nil | apply Sub.emp | (apply Sub.cons; focus ((repeat (first | exact Pick.hd | apply Pick.tl)); done)) | (apply Sub.con; focus ((repeat (first | exact Pick.hd | apply Pick.tl)); done)) | (apply Sub.app; focus ((repeat (first | exact Pick.hd | apply Pick.tl)); done)) | apply Sub.drop)); done)))
  · try simp at hc
    obtain rfl : i = D.pend.length := by omega
    rw [List.drop_length] at hsy
    simp only [syncF] at hsy
    subst hsy
    have hus : D.sync.used = D.used := hu1
    rw [← hus]
    refine Cod.exit ?_
    refine Ex.thenExit ?_
    refine Ex.thenExit ?_
    refine Ex.blockHit ?_
    refine Ex.next ?_
    refine Cod.region ?_
    refine Ops.val (opV_move rfl) rfl ?_
    refine Ops.val (opV_nil rfl) rfl ?_
    refine Ops.val (opV_field Fx.fld_144_1 rfl) rfl ?_
    refine Ops.st rfl (opS_store Fx.scal_142 Fx.sz1_142 rfl rfl (by first | rfl | assumption | exact Row.one (by assumption) | exact Sl.one (by assumption)) rfl (by repeat (first | exact Upd.hd | apply Upd.tl)) (by repeat (first | exact LSet.hd | apply LSet.tl))) ?_
    refine Ops.nil ?_
    exact Ex.end0 rfl (fun _ h => h.subs (by first | ((repeat (first | exact Sub.refl | exact Sub.nil | apply Sub.emp | (apply Sub.cons; focus ((repeat (first | exact Pick.hd | apply Pick.tl)); done)) | (apply Sub.con; focus ((repeat (first | exact Pick.hd | apply Pick.tl)); done)) | (apply Sub.app; focus ((repeat (first | exact Pick.hd | apply Pick.tl)); done)) | apply Sub.drop)); done) | ((repeat (first | rw [List.append_assoc] | rw [List.cons_append] | rw [List.nil_append] | rw [List.append_nil])); (repeat (first | exact Sub.refl | exact Sub.nil | apply Sub.emp | (apply Sub.cons; focus ((repeat (first | exact Pick.hd | apply Pick.tl)); done)) | (apply Sub.con; focus ((repeat (first | exact Pick.hd | apply Pick.tl)); done)) | (apply Sub.app; focus ((repeat (first | exact Pick.hd | apply Pick.tl)); done)) | apply Sub.drop)); done))) ⟨rfl, _, ⟨mb, ob, .slice none 0 0, [], FA1, [], [], kvs, hM, hF1, Row.nil _ _, .nil, rfl⟩, hu1, rfl⟩

theorem cut_spec {d s : Str} {k : Nat} (hk : lkp nm D.files = some (d, s)) (hkd : k ≤ d.length) (hn : D.pend = []) (hu : D.used ≤ 1000000000) (hw : Owns e w As) (hp : Pick As A F) (hD : DiskA p D A) :
    Calls Tryz.prog 148 #[.pointer (some ⟨p, 0, none⟩), S nm, .int .i64 (k : Int)] w (Ret e fun u Bs => u = .int .i64 0 ∧ ∃ A', DiskA p { D with files := ins nm (d.take k, d.take k) D.files } A' ∧ Bs = A' :: F) := by
  obtain ⟨mb, ob, pv, ps, FA, PR, PA, kvs, hM, hF, hR, hP, rfl⟩ := hD
  obtain ⟨fv, hkv⟩ := hF.kv hk
  obtain ⟨fb, dv, sv, data, safe, R1, R2, FA', rfl, hk', hd, hs, hown, hput, _⟩ := hF.get (e := e) hkv
  rw [hk'] at hk
  cases hk
  have hdu := usedF_le hk'
  have hdu' : d.length ≤ D.used := hdu
  obtain ⟨ap, cp, rfl⟩ := hR.isSlice
  rw [hn] at hR hP
  have hdd := usedF_ins (d' := d.take k) (s' := d.take k) hk'
  have hus : ((usedF (ins nm (d.take k, d.take k) D.files) : Nat) : Int) = (D.used : Int) - ((d.length : Int) - (k : Int)) := by
    unfold DK.used; simp at hdd; omega
  have e0 : D.pend.length = 0 := by rw [hn]; rfl
  rw [e0] at hp
  have hcut := hd.rsl3 (lo := 0) (hi := k) (mx := k) (by omega) hkd (Nat.le_refl _) hkd
  have ec : ((bcells d).drop (0 * 1)).take ((k - 0) * 1) = bcells (d.take k) := by simp [bcells]
  have el : k = (d.take k).length := by simp; omega
  rw [ec, show k - 0 = k by omega] at hcut
  refine enter Tryz.func148 rfl Tryz.ntmps148 (hown _ _ ((Owns.disk (hw.pick hp)).pick (.tl (.tl (.tl (.tl .hd)))))) rfl ?_
  refine Cod.seq ?_
  refine Cod.region ?_
  refine Ops.val (opV_assign rfl) rfl ?_
  refine Ops.nil ?_
  refine Ex.next ?_
  refine Cod.seq ?_
  refine Cod.region ?_
  refine Ops.val (opV_move rfl) rfl ?_
  refine Ops.val (opV_nil rfl) rfl ?_
  refine Ops.val (opV_field Fx.fld_144_0 rfl) rfl ?_
  refine Ops.val (opV_load Fx.scal_141 rfl (by repeat (first | exact Cell.one rfl | assumption | apply Cell.tl))) rfl ?_
  refine Ops.val (opV_move rfl) rfl ?_
  refine Ops.val (opV_lookup (κ := Str) Fx.map_141 rfl rfl (.mem (by repeat (first | exact List.Mem.head _ | apply List.Mem.tail))) (List.Mem.head _) hM) rfl ?_
  rw [hkv]
  refine Ops.val (opV_assign rfl) rfl ?_
  refine Ops.nil ?_
  refine Ex.next ?_
  refine Cod.seq ?_
  refine Cod.block ?_
  refine Cod.seq ?_
  refine Cod.region ?_
  refine Ops.val (opV_move rfl) rfl ?_
  refine Ops.val (opV_ptrnil Fx.ptr_161 rfl rfl rfl) rfl ?_
  refine Ops.val (opV_assign rfl) rfl ?_
  refine Ops.nil ?_
  refine Ex.next ?_
  refine Cod.condF rfl ?_
  refine Cod.seq ?_
  refine Cod.region ?_
  refine Ops.val (opV_move rfl) rfl ?_
  refine Ops.val (opV_lss rfl rfl (by first | exact decide_eq_true (by omega) | exact decide_eq_false (by omega) | rfl)) rfl ?_
  refine Ops.val (opV_move rfl) rfl ?_
  refine Ops.valg rfl (opV_move rfl) rfl ?_
  refine Ops.valg rfl (opV_move rfl) rfl ?_
  refine Ops.valg rfl (opV_nil rfl) rfl ?_
  refine Ops.valg rfl (opV_field Fx.fld_163_0 rfl) rfl ?_
  refine Ops.valg rfl (opV_load Fx.scal_29 rfl (by repeat (first | exact Cell.one rfl | assumption | apply Cell.tl))) rfl ?_
  refine Ops.valg rfl (opV_len Fx.sl_29 rfl (by first | exact ⟨_, _, rfl⟩ | exact Sl.isSlice (by assumption) | exact (Row.sl (by assumption)).isSlice)) rfl ?_
  refine Ops.valg rfl (opV_gtr rfl rfl (by first | exact decide_eq_true (by omega) | exact decide_eq_false (by omega) | rfl)) rfl ?_
  refine Ops.val (opV_pickF rfl rfl) rfl ?_
  refine Ops.val (opV_assign rfl) rfl ?_
  refine Ops.nil ?_
  refine Ex.next ?_
  refine Cod.condF rfl ?_
  refine Cod.skip ?_
  refine Ex.blockNormal ?_
  refine Ex.next ?_
  refine Cod.seq ?_
  refine Cod.draw [3, 7] [0, 1, 2, 4, 5, 6, 8, 9, 10, 11, 12, 13] ([(p, .cells #[.map (some mb), .slice ap 0 cp, .int .i64 D.room, .int .i64 (D.used : Int)] 144)] :: [(fb, .cells #[dv, sv] 163)] :: []) [0, 1, 2, 3, 4, 5, 6, 7, 8, 9, 10, 11, 12, 13, 14] M.mixed (by kernel_rfl) ?_
  refine AnyJ.valU rfl rfl rfl (opV_move rfl) rfl (fun _ _ _ h => h.2.elim) ?_
  refine AnyJ.valU rfl rfl rfl (opV_nil rfl) rfl (fun _ _ _ h => h.2.elim) ?_
  refine AnyJ.valU rfl rfl rfl (opV_field Fx.fld_144_3 rfl) rfl (fun _ _ _ h => h.2.elim) ?_
  refine AnyJ.val rfl rfl (opV_load Fx.scal_3 rfl (by repeat (first | exact Cell.one rfl | assumption | apply Cell.tl))) rfl (fun _ _ _ h => h.2.elim) (fun _ h => h.subs (by first | ((repeat (first | exact Sub.refl | exact Sub.nil | apply Sub.emp | (apply Sub.cons; focus ((repeat (first | exact Pick.hd | apply Pick.tl)); done)) | (apply Sub.con; focus ((repeat (first | exact Pick.hd | apply Pick.tl)); done)) | (apply Sub.app; focus ((repeat (first | exact Pick.hd | apply Pick.tl)); done)) | apply Sub.drop)); done) | ((repeat (first | rw [List.append_assoc] | rw [List.cons_append] | rw [List.nil_append] | rw [List.append_nil])); (repeat (first | exact Sub.refl | exact Sub.nil | apply Sub.emp | (apply Sub.cons; focus ((repeat (first | exact Pick.hd | apply Pick.tl)); done)) | (apply Sub.con; focus ((repeat (first | exact Pick.hd | apply Pick.tl)); done)) | (apply Sub.app; focus ((repeat (first | exact Pick.hd | apply Pick.tl)); done)) | apply Sub.drop)); done))) ?_
  refine AnyJ.valU rfl rfl rfl (opV_move rfl) rfl (fun _ _ _ h => h.2.elim) ?_
  refine AnyJ.valU rfl rfl rfl (opV_nil rfl) rfl (fun _ _ _ h => h.2.elim) ?_
  refine AnyJ.valU rfl rfl rfl (opV_field Fx.fld_163_0 rfl) rfl (fun _ _ _ h => h.2.elim) ?_
  refine AnyJ.val rfl rfl (opV_load Fx.scal_29 rfl (by repeat (first | exact Cell.one rfl | assumption | apply Cell.tl))) rfl (fun _ _ _ h => h.2.elim) (fun _ h => h.subs (by first | ((repeat (first | exact Sub.refl | exact Sub.nil | apply Sub.emp | (apply Sub.cons; focus ((repeat (first | exact Pick.hd | apply Pick.tl)); done)) | (apply Sub.con; focus ((repeat (first | exact Pick.hd | apply Pick.tl)); done)) | (apply Sub.app; focus ((repeat (first | exact Pick.hd | apply Pick.tl)); done)) | apply Sub.drop)); done) | ((repeat (first | rw [List.append_assoc] | rw [List.cons_append] | rw [List.nil_append] | rw [List.append_nil])); (repeat (first | exact Sub.refl | exact Sub.nil | apply Sub.emp | (apply Sub.cons; focus ((repeat (first | exact Pick.hd | apply Pick.tl)); done)) | (apply Sub.con; focus ((repeat (first | exact Pick.hd | apply Pick.tl)); done)) | (apply Sub.app; focus ((repeat (first | exact Pick.hd | apply Pick.tl)); done)) | apply Sub.drop)); done))) ?_
  refine AnyJ.valU rfl rfl rfl (opV_len Fx.sl_29 rfl (by first | exact ⟨_, _, rfl⟩ | exact Sl.isSlice (by assumption) | exact (Row.sl (by assumption)).isSlice)) rfl (fun _ _ _ h => h.2.elim) ?_
  refine AnyJ.valU rfl rfl rfl (opV_move rfl) rfl (fun _ _ _ h => h.2.elim) ?_
  refine AnyJ.valU rfl rfl rfl (opV_sub64 rfl rfl (by omega)) rfl (fun _ _ _ h => h.2.elim) ?_
  refine AnyJ.valU rfl rfl rfl (opV_sub64 rfl rfl (by omega)) rfl (fun _ _ _ h => h.2.elim) ?_
  refine AnyJ.valU rfl rfl rfl (opV_nil rfl) rfl (fun _ _ _ h => h.2.elim) ?_
  refine AnyJ.valU rfl rfl rfl (opV_field Fx.fld_144_3 rfl) rfl (fun _ _ _ h => h.2.elim) ?_
  refine AnyJ.st rfl rfl (opS_store Fx.scal_3 Fx.sz1_3 rfl rfl (by first | rfl | assumption | exact Row.one (by assumption) | exact Sl.one (by assumption)) rfl (by repeat (first | exact Upd.hd | apply Upd.tl)) (by repeat (first | exact LSet.hd | apply LSet.tl))) (by first | (intro _ _ h; refine h.subs ?_; (repeat (first | exact Sub.refl | exact Sub.nil | apply Sub.emp | (apply Sub.cons; focus ((repeat (first | exact Pick.hd | apply Pick.tl)); done)) | (apply Sub.con; focus ((repeat (first | exact Pick.hd | apply Pick.tl)); done)) | (apply Sub.app; focus ((repeat (first | exact Pick.hd | apply Pick.tl)); done)) | apply Sub.drop)); done) | exact lead_no (by kernel_rfl)) ?_
  refine AnyJ.nil ?_
  refine Ex.next ?_
  rw [← hus]
  refine Cod.seq ?_
  refine Cod.region ?_
  refine Ops.val (opV_move rfl) rfl ?_
  refine Ops.val (opV_move rfl) rfl ?_
  refine Ops.val (opV_nil rfl) rfl ?_
  refine Ops.val (opV_field Fx.fld_163_0 rfl) rfl ?_
  refine Ops.val (opV_load Fx.scal_29 rfl (by repeat (first | exact Cell.one rfl | assumption | apply Cell.tl))) rfl ?_
  refine Ops.val (opV_move rfl) rfl ?_
  refine Ops.val (opV_move rfl) rfl ?_
  refine Ops.val (opV_slice3 Fx.sl_29 rfl hd.sl (lo' := 0) (hi' := k) (mx' := k) rfl ⟨rfl, _, rfl⟩ ⟨rfl, _, rfl⟩ (by omega) (Nat.le_refl _) hkd) rfl ?_
  refine Ops.val (opV_nil rfl) rfl ?_
  refine Ops.val (opV_field Fx.fld_163_0 rfl) rfl ?_
  refine Ops.st rfl (opS_store Fx.scal_29 Fx.sz1_29 rfl rfl (by first | rfl | assumption | exact Row.one (by assumption) | exact Sl.one (by assumption)) rfl (by repeat (first | exact Upd.hd | apply Upd.tl)) (by repeat (first | exact LSet.hd | apply LSet.tl))) ?_
  refine Ops.nil ?_
  refine Ex.next ?_
  refine Cod.seq ?_
  refine Cod.region ?_
  refine Ops.val (opV_move rfl) rfl ?_
  refine Ops.val (opV_move rfl) rfl ?_
  refine Ops.val (opV_nil rfl) rfl ?_
  refine Ops.val (opV_field Fx.fld_163_0 rfl) rfl ?_
  refine Ops.val (opV_load Fx.scal_29 rfl (by repeat (first | exact Cell.one rfl | assumption | apply Cell.tl))) rfl ?_
  refine Ops.call rfl (opC_call Fx.cal_61 rfl (fun w hw => clone_bytes (xs := bcells (d.take k)) hw hcut.sl (.mem (by repeat (first | exact List.Mem.head _ | apply List.Mem.tail))) (bcells_one _) (by omega) (by omega))) rfl ?_
  rintro v58 _ ⟨A58, hA58, rfl⟩
  refine Ops.val (opV_nil rfl) rfl ?_
  refine Ops.val (opV_field Fx.fld_163_1 rfl) rfl ?_
  refine Ops.st rfl (opS_store Fx.scal_29 Fx.sz1_29 rfl rfl (by first | rfl | assumption | exact Row.one (by assumption) | exact Sl.one (by assumption)) rfl (by repeat (first | exact Upd.hd | apply Upd.tl)) (by repeat (first | exact LSet.hd | apply LSet.tl))) ?_
  refine Ops.nil ?_
  refine Ex.next ?_
  refine Cod.seq ?_
  refine Cod.region ?_
  refine Ops.val (opV_move rfl) rfl ?_
  refine Ops.val (opV_move rfl) rfl ?_
  refine Ops.call rfl (opC_call Fx.cal_212 rfl (fun w hw => forget_nil hw (by repeat (first | exact Pick.hd | apply Pick.tl)))) rfl ?_
  rintro v63 _ ⟨rfl, rfl⟩
  refine Ops.nil ?_
  refine Ex.next ?_
  refine Cod.seq ?_
  refine Cod.region ?_
  refine Ops.val (opV_assign rfl) rfl ?_
  refine Ops.nil ?_
  refine Ex.next ?_
  refine Cod.ret ?_
  exact Ex.ret1 rfl rfl (fun _ h => h.subs (by first | ((repeat (first | exact Sub.refl | exact Sub.nil | apply Sub.emp | (apply Sub.cons; focus ((repeat (first | exact Pick.hd | apply Pick.tl)); done)) | (apply Sub.con; focus ((repeat (first | exact Pick.hd | apply Pick.tl)); done)) | (apply Sub.app; focus ((repeat (first | exact Pick.hd | apply Pick.tl)); done)) | apply Sub.drop)); done) | ((repeat (first | rw [List.append_assoc] | rw [List.cons_append] | rw [List.nil_append] | rw [List.append_nil])); (repeat (first | exact Sub.refl | exact Sub.nil | apply Sub.emp | (apply Sub.cons; focus ((repeat (first | exact Pick.hd | apply Pick.tl)); done)) | (apply Sub.con; focus ((repeat (first | exact Pick.hd | apply Pick.tl)); done)) | (apply Sub.app; focus ((repeat (first | exact Pick.hd | apply Pick.tl)); done)) | apply Sub.drop)); done))) ⟨rfl, _, ⟨mb, ob, .slice ap 0 cp, _, _, PR, PA, _, hM, hput _ (d.take k) _ (d.take k) R1 A58 (by rw [← el]; exact hcut) (by rw [← el]; exact hA58), by rw [hn]; exact hR, by rw [hn]; exact hP, rfl⟩, rfl⟩
end
end Go.Proofs.YteejmoldhbfdnaaGreatDoor.Disk2
