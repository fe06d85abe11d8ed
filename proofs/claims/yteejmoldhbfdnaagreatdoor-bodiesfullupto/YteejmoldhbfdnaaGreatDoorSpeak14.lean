/- warrenlaw14.speaks: the example of the document. -/
import Derived.Test.YteejmoldhbfdnaaGreatDoorColl2
set_option maxRecDepth 8000
namespace Go.Proofs.YteejmoldhbfdnaaGreatDoor.Speak14
open Go.W Go.RowKit Lib1 Oct OctR Seal Disk Disk2 Wal Num Wal2 Wal3 Bod Bod2 Bod3 Bod4 Law14 Coll Coll2
namespace Fx
theorem cal_11 : callable Tryz.prog 11 = true := by kernel_rfl
theorem cal_12 : callable Tryz.prog 12 = true := by kernel_rfl
theorem cal_32 : callable Tryz.prog 32 = true := by kernel_rfl
theorem cal_34 : callable Tryz.prog 34 = true := by kernel_rfl
theorem cal_35 : callable Tryz.prog 35 = true := by kernel_rfl
theorem cal_39 : callable Tryz.prog 39 = true := by kernel_rfl
theorem cal_58 : callable Tryz.prog 58 = true := by kernel_rfl
theorem cal_59 : callable Tryz.prog 59 = true := by kernel_rfl
theorem ptr_25 : ptrT Tryz.prog 25 = true := by kernel_rfl
theorem sl_29 : slInfo Tryz.prog 29 = some (5, 1, 1, some (.int .u8 0)) := by kernel_rfl
theorem und_5 : Tryz.prog.underlying 5 = some (.int .u8) := by kernel_rfl

end Fx
def hi : Str := [104, 105]
def S0 : SK := ⟨[], [], 0, 0⟩
def D0 (r : Int) : DK := ⟨[], [], r⟩
theorem dok0 {r : Int} (h : r ≤ 9223372036854775807 ∧ -9223372036854775808 ≤ r) : DOK (D0 r) := ⟨(fun x h => by simp [D0, lkp] at h), (by simp [D0]), (by simp [D0, DK.used, usedF]), (by simp [D0]), (fun x h => by simp [D0] at h), h⟩
theorem sok0 (r : Int) : SOK S0 0 (D0 r) := ⟨rfl, by omega, rfl, fun _ => rfl, fun n g h => (by cases h), rfl, by simp [S0]⟩
def g1 : SegK := ⟨segBase 1, 1, 8, [], false⟩
def g2 : SegK := ⟨segBase 1, 1, 8 + (wrapped (rec1 1 hi)).length, [1], false⟩
def S2 : SK := ⟨[(1, (hi, 1, 1))], [(1, g2)], 1, 1⟩
def D2 : DK := (newD (D0 1099511627776) 0).append (fileF (segBase 1) 1) (wrapped (rec1 1 hi))
theorem put_speaks {s d : Nat} {G : List Hp} {u : Value} {Bs : List Hp} (h : PutR s d 0 S0 (D0 1099511627776) hi G u Bs) :
    ∃ A' DA', u = .tuple #[.int .i64 1, .int .i64 0] ∧ StoreA s d S2 A' ∧ DiskA d D2 DA' ∧ Bs = A' :: DA' :: G := by
  have hu : (newD (D0 1099511627776) 0).used = 8 := by unfold newD; rw [sync_used, append_used, wrapped_length]; rfl
  have hr : (newD (D0 1099511627776) 0).room = 1099511627776 := by simp [newD, sync_room, append_room, D0]
  have hl : (wrapped (rec1 1 hi)).length = 22 := by rw [wrapped_length, rec1_len]; rfl
  rcases h with ⟨S1, D1, g, A', DA', hRO, hg, hf, rfl, hS, hD, rfl⟩ | ⟨S1, D1, A', DA', hRO, hf, _⟩ | ⟨hN, _⟩
  · rcases hRO with ⟨rfl, rfl, g', h1, _⟩ | ⟨rfl, rfl, _, _⟩
    · cases h1
    · have hge : g = g1 := by
        have : lkp (S0.newSeg 0).current (S0.newSeg 0).segs = some g1 := rfl
        rw [this] at hg; exact (Option.some.inj hg).symm
      subst hge
      exact ⟨A', DA', rfl, hS, hD, rfl⟩
  · rcases hRO with ⟨rfl, rfl, g', h1, _⟩ | ⟨rfl, rfl, _, _⟩
    · cases h1
    · rw [hu, hr] at hf
      have : (wrapped (rec1 (S0.last + 1) hi)).length = 22 := hl
      omega
  · have h1 := hN.1
    simp [D0, DK.used, usedF] at h1
section
variable {e : Ctx} {w : World} {As F G : List Hp}
def S3 : SK := ⟨[(1, (hi, 2, 1))], [(1, g2)], 1, 1⟩
def S4 : SK := ⟨[(1, (hi, 2 - 1, 1))], [(1, g2)], 1, 1⟩
def S5 : SK := ⟨[], [(1, { g2 with stale := true })], 1, 1⟩
def S6 : SK := ⟨[(2, ([], 1, 0))], [(1, { g2 with stale := true })], 2, 1⟩
theorem hi_sl {b : Nat} {fz : Nat × Nat} : Sl [(b, .cells #[.int .u8 104, .int .u8 105] 5 fz)] 1 (.slice (some ⟨b, 0, none⟩) 2 2) 2 (bcells hi) :=
  ⟨rfl, .inr ⟨b, 0, 2, _, 5, fz, rfl, Nat.le_refl _, .head _, rfl⟩⟩
theorem coll_ok : StepOK S6 D2 { g2 with stale := true } := by
  have hlive : S6.live { g2 with stale := true } = [] := rfl
  have hr0 : recF S6.data (S6.live { g2 with stale := true }) = [] := by rw [hlive]; rfl
  have hl : (wrapped (rec1 1 hi)).length = 22 := by rw [wrapped_length, rec1_len]; rfl
  have hu : (newD (D0 1099511627776) 0).used = 8 := by unfold newD; rw [sync_used, append_used, wrapped_length]; rfl
  have hu2 : D2.used = 30 := by simp [D2, append_used, hu, hl]
  refine ⟨okBase_seg (n := 1) (by omega), by decide, ?_, by omega, ?_, ?_, ?_, by rw [hr0]; simp, ?_, by decide⟩
  · have h1 : (lkp (fileF (segBase 1) 1) ((D0 1099511627776).append (fileF (segBase 1) 1) (wrapped [])).files).isSome = true := by
      rw [append_self_new (D := D0 1099511627776) rfl]; rfl
    exact append_some (by unfold newD; rw [sync_some]; exact h1)
  · simp [D2, append_pend, newD, sync_pend]
  · exact append_ok sync_ok
  · simp [D2, append_room, newD, sync_room, D0]
  · rw [hr0, hu2, wrapped_length]; simp [D2, append_room, newD, sync_room, D0]
def CI (i : Nat) (S : SK) (D : DK) : Prop := (i = 0 ∧ S = S6 ∧ D = D2) ∨ i = 1
theorem ci0 : CI 0 S6 D2 := .inl ⟨rfl, rfl, rfl⟩
theorem cis : ∀ i n S1 D1, ((S6.segs.map Prod.fst).mergeSort (fun x y => decide (x ≤ y)))[i]? = some n → CI i S1 D1 → (∃ g, lkp n S1.segs = some g ∧ (g.stale = true → StepOK S1 D1 g)) ∧ CI (i + 1) (coll1 S1 D1 n).1 (coll1 S1 D1 n).2 := by
  intro i n S1 D1 hx hI
  have hm : (S6.segs.map Prod.fst).mergeSort (fun x y => decide (x ≤ y)) = [1] := by simp [S6]
  rw [hm] at hx
  rcases hI with ⟨rfl, rfl, rfl⟩ | rfl
  · simp at hx
    subst hx
    exact ⟨⟨_, rfl, fun _ => coll_ok⟩, .inr rfl⟩
  · simp at hx
theorem speaks (hG : Glob e) (hE : Kit.HasErr e) (hw : Owns e w As) : Calls Tryz.prog 10 #[] w (Ret e fun u Bs => u = .bool true ∧ Bs = As) := by
  refine enter Tryz.func10 rfl Tryz.ntmps10 hw rfl ?_
  refine Cod.seq ?_
  refine Cod.region ?_
  refine Ops.val (opV_assign rfl) rfl ?_
  refine Ops.nil ?_
  refine Ex.next ?_
  refine Cod.seq ?_
  refine Cod.region ?_
  refine Ops.call rfl (opC_call Fx.cal_11 rfl (fun w hw => opened hw)) rfl ?_
  rintro v8 _ ⟨d, s, A, DA, rfl, hA, hDA, rfl⟩
  refine Ops.val (opV_move rfl) rfl ?_
  refine Ops.val (opV_extract rfl rfl) rfl ?_
  refine Ops.val (opV_extract rfl rfl) rfl ?_
  refine Ops.val (opV_assign rfl) rfl ?_
  refine Ops.val (opV_assign rfl) rfl ?_
  refine Ops.nil ?_
  refine Ex.next ?_
  refine Cod.seq ?_
  refine Cod.seq ?_
  refine Cod.region ?_
  refine Ops.val (opV_move rfl) rfl ?_
  refine Ops.val (opV_ptrnil Fx.ptr_25 rfl rfl rfl) rfl ?_
  refine Ops.nil ?_
  refine Ex.next ?_
  refine Cod.condF rfl ?_
  refine Cod.skip ?_
  refine Ex.next ?_
  refine Cod.seq ?_
  refine Cod.region ?_
  refine Ops.val (opV_move rfl) rfl ?_
  refine Ops.eff rfl (opE_buildSlice Fx.sl_29 rfl rfl (by first | (simp [fillL, rowCells, vcells, putAt]; rfl) | (simp [fillL, rowCells, vcells, putAt]; done) | rfl)) rfl ?_
  rintro _ _ ⟨b15, rfl, rfl⟩
  refine Ops.eff rfl (opE_convSelf Fx.sl_29 Fx.und_5 rfl (by repeat (first | exact Pick.hd | apply Pick.tl))) rfl ?_
  rintro _ _ ⟨rfl, rfl⟩
  refine Ops.call rfl (opC_call Fx.cal_12 rfl (fun w hw => put_hard (data := hi) (c := 0) rfl (by simp [hi]) hG hE (dok0 (by omega)) (by simp [D0, DK.used, usedF]) (sok0 1099511627776) hw (A := A) (by repeat (first | exact Pick.hd | apply Pick.tl)) (DA := DA) (by repeat (first | exact Pick.hd | apply Pick.tl)) (.mem (by repeat (first | exact List.Mem.head _ | apply List.Mem.tail))) hA hDA hi_sl)) rfl ?_
  rintro v17 _ hR
  obtain ⟨A1, DA1, rfl, hA1, hDA1, rfl⟩ := put_speaks hR
  refine Ops.val (opV_move rfl) rfl ?_
  refine Ops.val (opV_extract rfl rfl) rfl ?_
  refine Ops.val (opV_extract rfl rfl) rfl ?_
  refine Ops.val (opV_assign rfl) rfl ?_
  refine Ops.val (opV_assign rfl) rfl ?_
  refine Ops.nil ?_
  refine Ex.next ?_
  refine Cod.seq ?_
  refine Cod.seq ?_
  refine Cod.region ?_
  refine Ops.val (opV_move rfl) rfl ?_
  refine Ops.val (opV_neq rfl rfl (by first | exact decide_eq_true (by omega) | exact decide_eq_false (by omega) | rfl)) rfl ?_
  refine Ops.val (opV_move rfl) rfl ?_
  refine Ops.valg rfl (opV_move rfl) rfl ?_
  refine Ops.valg rfl (opV_neq rfl rfl (by first | exact decide_eq_true (by omega) | exact decide_eq_false (by omega) | rfl)) rfl ?_
  refine Ops.val (opV_pickF rfl rfl) rfl ?_
  refine Ops.val (opV_move rfl) rfl ?_
  refine Ops.valg rfl (opV_move rfl) rfl ?_
  refine Ops.call rfl (opC_call Fx.cal_34 rfl (fun w hw => hold_some (data := hi) (held := 1) (seg := 1) rfl (by omega) hw .hd hA1)) rfl ?_
  rintro v28 _ ⟨rfl, A2, hA2, rfl⟩
  refine Ops.valg rfl (opV_neq rfl rfl (by first | exact decide_eq_true (by omega) | exact decide_eq_false (by omega) | rfl)) rfl ?_
  refine Ops.val (opV_pickF rfl rfl) rfl ?_
  refine Ops.val (opV_move rfl) rfl ?_
  refine Ops.valg rfl (opV_move rfl) rfl ?_
  refine Ops.call rfl (opC_call Fx.cal_35 rfl (fun w hw => release_keep (S := S3) (data := hi) (held := 2) (seg := 1) rfl (by omega) (by omega) hw .hd hA2)) rfl ?_
  rintro v33 _ ⟨rfl, A3, hA3, rfl⟩
  refine Ops.valg rfl (opV_neq rfl rfl (by first | exact decide_eq_true (by omega) | exact decide_eq_false (by omega) | rfl)) rfl ?_
  refine Ops.val (opV_pickF rfl rfl) rfl ?_
  refine Ops.val (opV_move rfl) rfl ?_
  refine Ops.valg rfl (opV_move rfl) rfl ?_
  refine Ops.call rfl (opC_call Fx.cal_58 rfl (fun w hw => held_some (S := S4) (data := hi) (held := 2 - 1) (seg := 1) rfl hw (.mem (List.Mem.head _)) hA3)) rfl ?_
  rintro v38 _ ⟨rfl, rfl⟩
  refine Ops.valg rfl (opV_neq rfl rfl (by first | exact decide_eq_true (by omega) | exact decide_eq_false (by omega) | rfl)) rfl ?_
  refine Ops.val (opV_pickF rfl rfl) rfl ?_
  refine Ops.nil ?_
  refine Ex.next ?_
  refine Cod.condF rfl ?_
  refine Cod.skip ?_
  refine Ex.next ?_
  refine Cod.seq ?_
  refine Cod.region ?_
  refine Ops.val (opV_move rfl) rfl ?_
  refine Ops.call rfl (opC_call Fx.cal_59 rfl (fun w hw => get_some (S := S4) (data := hi) (held := 2 - 1) (seg := 1) rfl (by simp [hi]) hw (.mem (List.Mem.head _)) hA3)) rfl ?_
  rintro v43 _ ⟨v43, A4, rfl, hA4, rfl⟩
  refine Ops.val (opV_move rfl) rfl ?_
  refine Ops.val (opV_extract rfl rfl) rfl ?_
  refine Ops.val (opV_extract rfl rfl) rfl ?_
  refine Ops.val (opV_assign rfl) rfl ?_
  refine Ops.val (opV_assign rfl) rfl ?_
  refine Ops.nil ?_
  refine Ex.next ?_
  refine Cod.seq ?_
  refine Cod.seq ?_
  refine Cod.region ?_
  refine Ops.val (opV_move rfl) rfl ?_
  refine Ops.eff rfl (opE_buildSlice Fx.sl_29 rfl rfl (by first | (simp [fillL, rowCells, vcells, putAt]; rfl) | (simp [fillL, rowCells, vcells, putAt]; done) | rfl)) rfl ?_
  rintro _ _ ⟨b47, rfl, rfl⟩
  refine Ops.eff rfl (opE_convSelf Fx.sl_29 Fx.und_5 rfl (by repeat (first | exact Pick.hd | apply Pick.tl))) rfl ?_
  rintro _ _ ⟨rfl, rfl⟩
  refine Ops.call rfl (opC_call Fx.cal_32 rfl (fun w hw => same (a := hi) (b := hi) rfl rfl hw (A := A4) (.mem (by repeat (first | exact List.Mem.head _ | apply List.Mem.tail))) (B := [(b47, .cells #[.int .u8 104, .int .u8 105] 5 (2, 3))]) (.mem (by repeat (first | exact List.Mem.head _ | apply List.Mem.tail))) hA4.sl hi_sl)) rfl ?_
  rintro v49 _ ⟨rfl, rfl⟩
  refine Ops.val (opV_not rfl) rfl ?_
  refine Ops.val (opV_move rfl) rfl ?_
  refine Ops.valg rfl (opV_move rfl) rfl ?_
  refine Ops.valg rfl (opV_not rfl) rfl ?_
  refine Ops.val (opV_pickF rfl rfl) rfl ?_
  refine Ops.val (opV_move rfl) rfl ?_
  refine Ops.valg rfl (opV_move rfl) rfl ?_
  refine Ops.call rfl (opC_call Fx.cal_35 rfl (fun w hw => release_last (S := S4) (data := hi) (seg := 1) rfl hw (A := A3) (by repeat (first | exact Pick.hd | apply Pick.tl)) hA3)) rfl ?_
  rintro v57 _ ⟨rfl, A5, hA5, rfl⟩
  refine Ops.valg rfl (opV_neq rfl rfl (by first | exact decide_eq_true (by omega) | exact decide_eq_false (by omega) | rfl)) rfl ?_
  refine Ops.val (opV_pickF rfl rfl) rfl ?_
  refine Ops.val (opV_move rfl) rfl ?_
  refine Ops.valg rfl (opV_move rfl) rfl ?_
  refine Ops.call rfl (opC_call Fx.cal_35 rfl (fun w hw => release_none (S := S5) rfl hw (.mem (List.Mem.head _)) hA5)) rfl ?_
  rintro v62 _ ⟨rfl, rfl⟩
  refine Ops.valg rfl (opV_neq rfl rfl (by first | exact decide_eq_true (by omega) | exact decide_eq_false (by omega) | rfl)) rfl ?_
  refine Ops.val (opV_pickF rfl rfl) rfl ?_
  refine Ops.nil ?_
  refine Ex.next ?_
  refine Cod.condF rfl ?_
  refine Cod.skip ?_
  refine Ex.next ?_
  refine Cod.seq ?_
  refine Cod.region ?_
  refine Ops.val (opV_move rfl) rfl ?_
  refine Ops.call rfl (opC_call Fx.cal_12 rfl (fun w hw => put_soft (S := S5) (data := []) rfl (by simp) (by decide) rfl hw (A := A5) (by repeat (first | exact Pick.hd | apply Pick.tl)) .base hA5 (Sl.nil _ _))) rfl ?_
  rintro v67 _ ⟨rfl, A6, hA6, rfl⟩
  have h2 : S5.last + 1 = 2 := rfl
  rw [h2]
  refine Ops.val (opV_move rfl) rfl ?_
  refine Ops.val (opV_extract rfl rfl) rfl ?_
  refine Ops.val (opV_extract rfl rfl) rfl ?_
  refine Ops.val (opV_assign rfl) rfl ?_
  refine Ops.val (opV_assign rfl) rfl ?_
  refine Ops.nil ?_
  refine Ex.next ?_
  refine Cod.seq ?_
  refine Cod.region ?_
  refine Ops.val (opV_move rfl) rfl ?_
  refine Ops.val (opV_eql rfl rfl (by first | exact decide_eq_true (by omega) | exact decide_eq_false (by omega) | rfl)) rfl ?_
  refine Ops.val (opV_move rfl) rfl ?_
  refine Ops.valg rfl (opV_move rfl) rfl ?_
  refine Ops.valg rfl (opV_eql rfl rfl (by first | exact decide_eq_true (by omega) | exact decide_eq_false (by omega) | rfl)) rfl ?_
  refine Ops.val (opV_pickT rfl rfl) rfl ?_
  refine Ops.val (opV_move rfl) rfl ?_
  refine Ops.valg rfl (opV_move rfl) rfl ?_
  refine Ops.call rfl (opC_call Fx.cal_39 rfl (fun w hw => collect_spec (S := S6) (D := D2) (I := CI) hG (by decide) (by decide) ci0 cis hw (A := A6) (by repeat (first | exact Pick.hd | apply Pick.tl)) (DA := DA1) (by repeat (first | exact Pick.hd | apply Pick.tl)) hA6 hDA1)) rfl ?_
  rintro v78 _ ⟨rfl, S', D', A7, DA7, _, _, _, rfl⟩
  refine Ops.valg rfl (opV_eql rfl rfl (by first | exact decide_eq_true (by omega) | exact decide_eq_false (by omega) | rfl)) rfl ?_
  refine Ops.val (opV_pickT rfl rfl) rfl ?_
  refine Ops.val (opV_assign rfl) rfl ?_
  refine Ops.nil ?_
  refine Ex.next ?_
  refine Cod.ret ?_
  exact Ex.ret1 rfl rfl (fun _ h => h.subs (by first | ((repeat (first | exact Sub.refl | exact Sub.nil | apply Sub.emp | (apply Sub.cons; focus ((repeat (first | exact Pick.hd | apply Pick.tl)); done)) | (apply Sub.con; focus ((repeat (first | exact Pick.hd | apply Pick.tl)); done)) | (apply Sub.app; focus ((repeat (first | exact Pick.hd | apply Pick.tl)); done)) | apply Sub.drop)); done) | ((repeat (first | rw [List.append_assoc] | rw [List.cons_append] | rw [List.nil_append] | rw [List.append_nil])); (repeat (first | exact Sub.refl | exact Sub.nil | apply Sub.emp | (apply Sub.cons; focus ((repeat (first | exact Pick.hd | apply Pick.tl)); done)) | (apply Sub.con; focus ((repeat (first | exact Pick.hd | apply Pick.tl)); done)) | (apply Sub.app; focus ((repeat (first | exact Pick.hd | apply Pick.tl)); done)) | apply Sub.drop)); done))) ⟨rfl, rfl⟩
end
end Go.Proofs.YteejmoldhbfdnaaGreatDoor.Speak14
