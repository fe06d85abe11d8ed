/- Package wal: Open. -/
import Derived.Test.YteejmoldhbfdnaaGreatDoorWal2
namespace Go.Proofs.YteejmoldhbfdnaaGreatDoor.Wal3
open Go.W Go.RowKit Lib1 Oct OctR Seal Disk Disk2 Wal Num Wal2
namespace Fx
theorem cal_143 : callable Tryz.prog 143 = true := by kernel_rfl
theorem cal_144 : callable Tryz.prog 144 = true := by kernel_rfl
theorem cal_145 : callable Tryz.prog 145 = true := by kernel_rfl
theorem cal_146 : callable Tryz.prog 146 = true := by kernel_rfl
theorem cal_148 : callable Tryz.prog 148 = true := by kernel_rfl
theorem cal_149 : callable Tryz.prog 149 = true := by kernel_rfl
theorem cal_63 : callable Tryz.prog 63 = true := by kernel_rfl
theorem cal_73 : callable Tryz.prog 73 = true := by kernel_rfl
theorem cal_74 : callable Tryz.prog 74 = true := by kernel_rfl
theorem cal_75 : callable Tryz.prog 75 = true := by kernel_rfl
theorem fld_228_2 : fieldOff Tryz.prog 228 2 = some 2 := by kernel_rfl
theorem fld_228_3 : fieldOff Tryz.prog 228 3 = some 3 := by kernel_rfl
theorem scal_3 : scalarB Tryz.prog 3 = true := by kernel_rfl
theorem scal_9 : scalarB Tryz.prog 9 = true := by kernel_rfl
theorem sl_22 : slInfo Tryz.prog 22 = some (29, 1, 24, some (.slice none 0 0)) := by kernel_rfl
theorem sl_67 : slInfo Tryz.prog 67 = some (9, 1, 16, some (S [])) := by kernel_rfl
theorem st_228 : stInfo Tryz.prog 228 = some (#[(.pointer none), (S []), (.int .i64 0), (.int .i64 0)], #[(0, 1), (1, 1), (2, 1), (3, 1)]) := by kernel_rfl
theorem sz1_3 : (Tryz.prog.info? 3).map (·.size) = some 1 := by kernel_rfl
theorem und_9 : Tryz.prog.underlying 9 = some .string := by kernel_rfl

end Fx
theorem Wh_le {b : Str} {ds : List Str} {k : Nat} (h : Wh b ds k) : k ≤ b.length := by
  induction h with
  | stop => exact Nat.zero_le _
  | step h _ ih =>
    have := unwrapF_len h
    simp only [List.length_drop] at ih
    omega
theorem mem_names {fs : List (Str × (Str × Str))} {x : Str} : x ∈ (fs.map Prod.fst).mergeSort (fun x y => decide (x ≤ y)) ↔ (lkp x fs).isSome = true := by
  rw [List.mem_mergeSort]
  have := lkp_none (k := x) (m := fs)
  cases hq : lkp x fs with
  | none => simp [this.1 hq]
  | some y => simp only [Option.isSome_some, iff_true]; rw [hq] at this; simpa using this
section
variable {e : Ctx} {w : World} {As F G : List Hp} {A B : Hp} {p g kk : Nat} {base data safe : Str} {recs : List Str} {D : DK}
/-- What Open gives. -/
def OpenPost (p g kk : Nat) (base data : Str) (recs : List Str) (D : DK) (F : List Hp) (u : Value) (Bs : List Hp) : Prop :=
  (g ≠ 0 ∧ ∃ l v8 vs R8 A8 A', u = .tuple #[.pointer (some ⟨l, 0, none⟩), v8, .int .i64 0] ∧ Row 29 1 v8 recs.length vs R8 ∧ BL A8 vs recs ∧ DiskA p { D with files := ins (fileF base g) (data.take kk, data.take kk) D.files } A' ∧ Bs = A' :: logB l p base g kk :: R8 :: A8 :: F) ∨
  (g = 0 ∧ (D.used : Int) + 8 ≤ D.room ∧ ∃ l v8 vs R8 A8 A', u = .tuple #[.pointer (some ⟨l, 0, none⟩), v8, .int .i64 0] ∧ Row 29 1 v8 1 vs R8 ∧ BL A8 vs [[]] ∧ DiskA p (D.append (fileF base 1) (wrapped [])).sync A' ∧ Bs = A' :: logB l p base 1 8 :: R8 :: A8 :: F) ∨
  (g = 0 ∧ D.room < (D.used : Int) + 8 ∧ u = .tuple #[.pointer none, .slice none 0 0, .int .i64 6] ∧ ∃ A', DiskA p D A' ∧ Bs = A' :: F)
theorem open_spec (hG : Glob e) (hE : Kit.HasErr e) (hb : okBase base) (hnl : ∀ x, (lkp x D.files).isSome = true → x.length ≤ 1000) (hfl : D.files.length ≤ 1000000000) (hu : D.used ≤ 900000000) (hn : D.pend.length < 100000000) (hpo : PendOK D) (hr : D.room ≤ 9223372036854775807 ∧ -9223372036854775808 ≤ D.room)
    (uniq : ∀ g', 1 ≤ g' → g' ≤ 999999999 → (lkp (fileF base g') D.files).isSome = true → g' = g)
    (hold : g ≠ 0 → 1 ≤ g ∧ g ≤ 999999999 ∧ lkp (fileF base g) D.files = some (data, safe) ∧ Wh data recs kk ∧ recs ≠ [] ∧ D.pend = [])
    (hw : Owns e w As) (hp : Pick As A F) (hD : DiskA p D A) :
    Calls Tryz.prog 76 #[.pointer (some ⟨p, 0, none⟩), S base] w (Ret e (OpenPost p g kk base data recs D F)) := by
  have hb2 := hb.2.1
  have hgb := good_base hb
  have hdot : ¬ (0 ≤ Lib.indexByte base 46) := by
    intro h
    have h1 := (Lib.indexByte_some (l := base) (c := 46) (o := (Lib.indexByte base 46).toNat) (by omega)).1
    exact (hb.2.2 46 (List.mem_of_getElem? h1)).2 rfl
  refine enter Tryz.func76 rfl Tryz.ntmps76 (hw.pick hp) rfl ?_
  refine Cod.seq ?_
  refine Cod.region ?_
  refine Ops.val (opV_assign rfl) rfl ?_
  refine Ops.val (opV_assign rfl) rfl ?_
  refine Ops.val (opV_assign rfl) rfl ?_
  refine Ops.nil ?_
  refine Ex.next ?_
  refine Cod.seq ?_
  refine Cod.seq ?_
  refine Cod.region ?_
  refine Ops.val (opV_move rfl) rfl ?_
  refine Ops.call rfl (opC_call Fx.cal_74 rfl (fun w hw => goodName hgb hw)) rfl ?_
  rintro v21 _ ⟨rfl, rfl⟩
  refine Ops.val (opV_not rfl) rfl ?_
  refine Ops.val (opV_move rfl) rfl ?_
  refine Ops.valg rfl (opV_move rfl) rfl ?_
  refine Ops.valg rfl (opV_slen Fx.und_9 rfl) rfl ?_
  refine Ops.valg rfl (opV_gtr rfl rfl (by first | exact decide_eq_true (by omega) | exact decide_eq_false (by omega) | rfl)) rfl ?_
  refine Ops.val (opV_pickF rfl rfl) rfl ?_
  refine Ops.val (opV_move rfl) rfl ?_
  refine Ops.valg rfl (opV_move rfl) rfl ?_
  refine Ops.call rfl (opC_call Fx.cal_143 rfl (fun w hw => Kit.contains_one hw)) rfl ?_
  rintro v30 _ ⟨rfl, rfl⟩
  rw [decide_eq_false hdot]
  refine Ops.val (opV_pickF rfl rfl) rfl ?_
  refine Ops.nil ?_
  refine Ex.next ?_
  refine Cod.condF rfl ?_
  refine Cod.skip ?_
  refine Ex.next ?_
  refine Cod.seq ?_
  refine Cod.region ?_
  refine Ops.val (opV_move rfl) rfl ?_
  refine Ops.val (opV_move rfl) rfl ?_
  refine Ops.val (opV_build Fx.st_228 rfl (by first | (simp [fillL, vcells, putAt]; rfl) | (simp [fillL, vcells, putAt]; done) | rfl)) rfl ?_
  refine Ops.eff rfl (opE_box rfl) rfl ?_
  rintro _ _ ⟨b35, rfl, rfl⟩
  refine Ops.val (opV_assign rfl) rfl ?_
  refine Ops.nil ?_
  refine Ex.next ?_
  refine Cod.seq ?_
  refine Cod.region ?_
  refine Ops.val (opV_assign rfl) rfl ?_
  refine Ops.nil ?_
  refine Ex.next ?_
  refine Cod.seq ?_
  refine Cod.seq ?_
  refine Cod.region ?_
  refine Ops.val (opV_move rfl) rfl ?_
  refine Ops.call rfl (opC_call Fx.cal_75 rfl (fun w hw => Kit.names hfl (fun x hx => by have := hnl x hx; omega) hw (.mem (by repeat (first | exact List.Mem.head _ | apply List.Mem.tail))) hD)) rfl ?_
  rintro v37 _ ⟨ns, AN, hAN, hns, rfl⟩
  refine Ops.val (opV_len Fx.sl_67 rfl hAN.isSlice) rfl ?_
  have hnlen : ns.length = D.files.length := by rw [hns]; simp
  have hmem : ∀ x, x ∈ ns ↔ (lkp x D.files).isSome = true := fun x => by rw [hns]; exact mem_names
  refine Ops.val (opV_move rfl) rfl ?_
  refine Ops.nil ?_
  refine Ex.next ?_
  refine Cod.block ?_
  refine Cod.loop (X := Nat × Nat × Nat × Value × List Value × Hp × Hp) (fun (i, cur, sz, v8, vs, R8, A8) => [(0, .pointer (some ⟨p, 0, none⟩)), (7, .pointer (some ⟨b35, 0, none⟩)), (8, v8), (37, v37), (38, .int .i64 ns.length), (39, .int .i64 (i : Int))]) (fun (i, cur, sz, v8, vs, R8, A8) => A :: logB b35 p base cur sz :: AN :: R8 :: A8 :: F) (fun (i, cur, sz, v8, vs, R8, A8) => i ≤ ns.length ∧ ((cur = 0 ∧ sz = 0 ∧ v8 = .slice none 0 0) ∨ (cur = g ∧ g ≠ 0 ∧ sz = kk ∧ Row 29 1 v8 recs.length vs R8 ∧ BL A8 vs recs)) ∧ (fileF base g ∈ ns.take i → g ≠ 0 → cur = g)) (fun (i, cur, sz, v8, vs, R8, A8) => ns.length - i) ((0, 0, 0, .slice none 0 0, [], [], [])) (⟨Nat.zero_le _, .inl ⟨rfl, rfl, rfl⟩, fun h => by simp at h⟩) (by repeat (first | exact trivial | refine ⟨rfl, ?_⟩)) (fun _ h => h.subs (by first | ((repeat (first | exact Sub.refl | exact Sub.nil | apply Sub.emp | (apply Sub.cons; focus ((repeat (first | exact Pick.hd | apply Pick.tl)); done)) | (apply Sub.con; focus ((repeat (first | exact Pick.hd | apply Pick.tl)); done)) | (apply Sub.app; focus ((repeat (first | exact Pick.hd | apply Pick.tl)); done)) | apply Sub.drop)); done) | ((repeat (first | rw [List.append_assoc] | rw [List.cons_append] | rw [List.nil_append] | rw [List.append_nil])); (repeat (first | exact Sub.refl | exact Sub.nil | apply Sub.emp | (apply Sub.cons; focus ((repeat (first | exact Pick.hd | apply Pick.tl)); done)) | (apply Sub.con; focus ((repeat (first | exact Pick.hd | apply Pick.tl)); done)) | (apply Sub.app; focus ((repeat (first | exact Pick.hd | apply Pick.tl)); done)) | apply Sub.drop)); done))) ?_
  rintro ⟨i, cur, sz, v8, vs, R8, A8⟩ ⟨hi, hcur, htk⟩
  try dsimp only
  refine Cod.seq ?_
  refine Cod.region ?_
  refine Ops.val (opV_lss rfl rfl (by first | exact decide_eq_true (by omega) | exact decide_eq_false (by omega) | rfl)) rfl ?_
  refine Ops.nil ?_
  refine Ex.next ?_
  refine Cod.seq ?_
  refine Cod.cond rfl (fun hc => ?_) (fun hc => ?_)
  · try simp at hc
    obtain ⟨nm, hx⟩ : ∃ x, ns[i]? = some x := ⟨_, List.getElem?_eq_getElem (by omega)⟩
    have htk1 : ns.take (i + 1) = ns.take i ++ [nm] := by rw [List.take_add_one, hx]; rfl
    have hnm := (hmem nm).1 (List.mem_of_getElem? hx)
    refine Cod.skip ?_
    refine Ex.next ?_
    refine Cod.seq ?_
    refine Cod.block ?_
    refine Cod.seq ?_
    refine Cod.region ?_
    refine Ops.val (opV_indexAddr Fx.sl_67 rfl hAN.sl (k := i) rfl (by omega)) rfl ?_
    refine Ops.val (opV_loadE Fx.scal_9 rfl hAN.sl (.mem (by repeat (first | exact List.Mem.head _ | apply List.Mem.tail))) (u := S nm) (by simp [hx])) rfl ?_
    refine Ops.val (opV_assign rfl) rfl ?_
    refine Ops.nil ?_
    refine Ex.next ?_
    refine Cod.seq ?_
    refine Cod.region ?_
    refine Ops.val (opV_move rfl) rfl ?_
    refine Ops.val (opV_move rfl) rfl ?_
    refine Ops.call rfl (opC_call Fx.cal_144 rfl (fun w hw => generation_spec (base := base) (gen := cur) (size := sz) (d := p) hG hE hb (hnl nm hnm) hw (.mem (by repeat (first | exact List.Mem.head _ | apply List.Mem.tail))))) rfl ?_
    rintro v45 _ ⟨gr, rfl, hgr, rfl⟩
    refine Ops.val (opV_assign rfl) rfl ?_
    refine Ops.nil ?_
    refine Ex.next ?_
    refine Cod.seq ?_
    refine Cod.seq ?_
    refine Cod.region ?_
    refine Ops.val (opV_move rfl) rfl ?_
    refine Ops.val (opV_move rfl) rfl ?_
    refine Ops.val (opV_nil rfl) rfl ?_
    refine Ops.val (opV_field Fx.fld_228_2 rfl) rfl ?_
    refine Ops.val (opV_load Fx.scal_3 rfl (by repeat (first | exact Cell.one rfl | assumption | apply Cell.tl))) rfl ?_
    refine Ops.val (opV_leq rfl rfl (by first | exact decide_eq_true (by omega) | exact decide_eq_false (by omega) | rfl)) rfl ?_
    refine Ops.nil ?_
    refine Ex.next ?_
    refine Cod.cond rfl (fun hle => ?_) (fun hle => ?_)
    · try simp at hle
      have hnext : fileF base g ∈ ns.take (i + 1) → g ≠ 0 → cur = g := by
          intro h h0
          rw [htk1] at h
          rcases List.mem_append.1 h with h | h
          · exact htk h h0
          · simp at h
            have hg1 := hold h0
            have := hgr.2 g hg1.1 hg1.2.1 h.symm
            rcases hcur with ⟨h1, _⟩ | ⟨h1, _⟩
            · omega
            · exact h1
      refine Cod.exit ?_
      refine Ex.thenExit ?_
      refine Ex.blockHit ?_
      refine Ex.next ?_
      refine Cod.region ?_
      refine Ops.val (opV_add64 rfl rfl (by omega)) rfl ?_
      refine Ops.val (opV_move rfl) rfl ?_
      refine Ops.nil ?_
      refine Ex.toN (fun _ _ hs => ⟨(i + 1, cur, sz, v8, vs, R8, A8), ⟨by dsimp only; omega, hcur, hnext⟩, (by first | omega | (dsimp only; omega) | (simp; omega) | (simp; done)), hs⟩) (by repeat (first | exact trivial | refine ⟨rfl, ?_⟩)) (fun _ h => h.subs (by first | ((repeat (first | exact Sub.refl | exact Sub.nil | apply Sub.emp | (apply Sub.cons; focus ((repeat (first | exact Pick.hd | apply Pick.tl)); done)) | (apply Sub.con; focus ((repeat (first | exact Pick.hd | apply Pick.tl)); done)) | (apply Sub.app; focus ((repeat (first | exact Pick.hd | apply Pick.tl)); done)) | apply Sub.drop)); done) | ((repeat (first | rw [List.append_assoc] | rw [List.cons_append] | rw [List.nil_append] | rw [List.append_nil])); (repeat (first | exact Sub.refl | exact Sub.nil | apply Sub.emp | (apply Sub.cons; focus ((repeat (first | exact Pick.hd | apply Pick.tl)); done)) | (apply Sub.con; focus ((repeat (first | exact Pick.hd | apply Pick.tl)); done)) | (apply Sub.app; focus ((repeat (first | exact Pick.hd | apply Pick.tl)); done)) | apply Sub.drop)); done)))
    · try simp at hle
      have hgr1 : 1 ≤ gr ∧ gr ≤ 999999999 ∧ nm = fileF base gr := by rcases hgr.1 with h | h; omega; exact h
      have hgg : gr = g := uniq gr hgr1.1 hgr1.2.1 (by rw [← hgr1.2.2]; exact hnm)
      subst hgg
      obtain ⟨o1, o2, o3, o4, o5, o6⟩ := hold (by omega)
      have hnme := hgr1.2.2
      subst hnme
      refine Cod.skip ?_
      refine Ex.next ?_
      refine Cod.seq ?_
      refine Cod.region ?_
      refine Ops.val (opV_move rfl) rfl ?_
      refine Ops.val (opV_move rfl) rfl ?_
      refine Ops.call rfl (opC_call Fx.cal_145 rfl (fun w hw => read_some o3 (by omega) hw (.mem (by repeat (first | exact List.Mem.head _ | apply List.Mem.tail))) hD)) rfl ?_
      rintro v55 _ ⟨vd, Ad, rfl, hAd, rfl⟩
      refine Ops.val (opV_move rfl) rfl ?_
      refine Ops.val (opV_extract rfl rfl) rfl ?_
      refine Ops.val (opV_extract rfl rfl) rfl ?_
      refine Ops.val (opV_assign rfl) rfl ?_
      refine Ops.val (opV_assign rfl) rfl ?_
      refine Ops.nil ?_
      refine Ex.next ?_
      refine Cod.seq ?_
      refine Cod.region ?_
      refine Ops.val (opV_move rfl) rfl ?_
      refine Ops.call rfl (opC_call Fx.cal_146 rfl (fun w hw => whole_spec rfl hG.nib hw hAd.sl (.mem (by repeat (first | exact List.Mem.head _ | apply List.Mem.tail))) (by have := usedF_le o3; have : data.length ≤ D.used := this; omega))) rfl ?_
      rintro v60 _ ⟨ds, k', v', vs', R', A', hWh, _, rfl, hR', hBL, rfl⟩
      obtain ⟨rfl, rfl⟩ := hWh.det o4
      refine Ops.val (opV_move rfl) rfl ?_
      refine Ops.val (opV_extract rfl rfl) rfl ?_
      refine Ops.val (opV_extract rfl rfl) rfl ?_
      refine Ops.val (opV_assign rfl) rfl ?_
      refine Ops.val (opV_assign rfl) rfl ?_
      refine Ops.nil ?_
      refine Ex.next ?_
      refine Cod.seq ?_
      refine Cod.region ?_
      refine Ops.val (opV_move rfl) rfl ?_
      refine Ops.val (opV_len Fx.sl_22 rfl hR'.isSlice) rfl ?_
      refine Ops.val (opV_gtr rfl rfl (decide_eq_true (by have : ds.length ≠ 0 := fun q => o5 (List.eq_nil_of_length_eq_zero q); omega))) rfl ?_
      refine Ops.nil ?_
      refine Ex.next ?_
      refine Cod.condT rfl ?_
      refine Cod.region ?_
      refine Ops.val (opV_move rfl) rfl ?_
      refine Ops.val (opV_move rfl) rfl ?_
      refine Ops.val (opV_move rfl) rfl ?_
      refine Ops.val (opV_move rfl) rfl ?_
      refine Ops.val (opV_move rfl) rfl ?_
      refine Ops.val (opV_nil rfl) rfl ?_
      refine Ops.val (opV_field Fx.fld_228_2 rfl) rfl ?_
      refine Ops.st rfl (opS_store Fx.scal_3 Fx.sz1_3 rfl rfl (by first | rfl | assumption | exact Row.one (by assumption) | exact Sl.one (by assumption)) rfl (by repeat (first | exact Upd.hd | apply Upd.tl)) (by repeat (first | exact LSet.hd | apply LSet.tl))) ?_
      refine Ops.val (opV_nil rfl) rfl ?_
      refine Ops.val (opV_field Fx.fld_228_3 rfl) rfl ?_
      refine Ops.st rfl (opS_store Fx.scal_3 Fx.sz1_3 rfl rfl (by first | rfl | assumption | exact Row.one (by assumption) | exact Sl.one (by assumption)) rfl (by repeat (first | exact Upd.hd | apply Upd.tl)) (by repeat (first | exact LSet.hd | apply LSet.tl))) ?_
      refine Ops.val (opV_assign rfl) rfl ?_
      refine Ops.nil ?_
      refine Ex.blockNormal ?_
      refine Ex.next ?_
      refine Cod.region ?_
      refine Ops.val (opV_add64 rfl rfl (by omega)) rfl ?_
      refine Ops.val (opV_move rfl) rfl ?_
      refine Ops.nil ?_
      refine Ex.toN (fun _ _ hs => ⟨(i + 1, gr, k', v', vs', R', A'), ⟨by dsimp only; omega, .inr ⟨rfl, by omega, rfl, hR', hBL⟩, fun _ _ => rfl⟩, (by first | omega | (dsimp only; omega) | (simp; omega) | (simp; done)), hs⟩) (by repeat (first | exact trivial | refine ⟨rfl, ?_⟩)) (fun _ h => h.subs (by first | ((repeat (first | exact Sub.refl | exact Sub.nil | apply Sub.emp | (apply Sub.cons; focus ((repeat (first | exact Pick.hd | apply Pick.tl)); done)) | (apply Sub.con; focus ((repeat (first | exact Pick.hd | apply Pick.tl)); done)) | (apply Sub.app; focus ((repeat (first | exact Pick.hd | apply Pick.tl)); done)) | apply Sub.drop)); done) | ((repeat (first | rw [List.append_assoc] | rw [List.cons_append] | rw [List.nil_append] | rw [List.append_nil])); (repeat (first | exact Sub.refl | exact Sub.nil | apply Sub.emp | (apply Sub.cons; focus ((repeat (first | exact Pick.hd | apply Pick.tl)); done)) | (apply Sub.con; focus ((repeat (first | exact Pick.hd | apply Pick.tl)); done)) | (apply Sub.app; focus ((repeat (first | exact Pick.hd | apply Pick.tl)); done)) | apply Sub.drop)); done)))
  · try simp at hc
    obtain rfl : i = ns.length := by omega
    rw [List.take_length] at htk
    have hcg : cur = g := by
        by_cases h0 : g = 0
        · rcases hcur with ⟨h1, _⟩ | ⟨_, h1, _⟩
          · rw [h0]; exact h1
          · exact absurd h0 h1
        · exact htk ((hmem _).2 (by rw [(hold h0).2.2.1]; rfl)) h0
    subst hcg
    refine Cod.exit ?_
    refine Ex.thenExit ?_
    refine Ex.thenExit ?_
    refine Ex.blockHit ?_
    refine Ex.next ?_
    refine Cod.seq ?_
    refine Cod.seq ?_
    refine Cod.region ?_
    refine Ops.val (opV_move rfl) rfl ?_
    refine Ops.call rfl (opC_call Fx.cal_75 rfl (fun w hw => Kit.names hfl (fun x hx => by have := hnl x hx; omega) hw (.mem (by repeat (first | exact List.Mem.head _ | apply List.Mem.tail))) hD)) rfl ?_
    rintro v77 _ ⟨ns2, AN2, hAN2, hns2, rfl⟩
    refine Ops.val (opV_len Fx.sl_67 rfl hAN2.isSlice) rfl ?_
    have hnlen2 : ns2.length = D.files.length := by rw [hns2]; simp
    have hmem2 : ∀ x, x ∈ ns2 ↔ (lkp x D.files).isSome = true := fun x => by rw [hns2]; exact mem_names
    refine Ops.val (opV_move rfl) rfl ?_
    refine Ops.nil ?_
    refine Ex.next ?_
    refine Cod.block ?_
    refine Cod.loop (X := Nat) (fun i => [(0, .pointer (some ⟨p, 0, none⟩)), (7, .pointer (some ⟨b35, 0, none⟩)), (8, v8), (77, v77), (78, .int .i64 ns2.length), (79, .int .i64 (i : Int))]) (fun i => A :: logB b35 p base cur sz :: AN2 :: R8 :: A8 :: F) (fun i => i ≤ ns2.length) (fun i => ns2.length - i) (0) ((Nat.zero_le _)) (by repeat (first | exact trivial | refine ⟨rfl, ?_⟩)) (fun _ h => h.subs (by first | ((repeat (first | exact Sub.refl | exact Sub.nil | apply Sub.emp | (apply Sub.cons; focus ((repeat (first | exact Pick.hd | apply Pick.tl)); done)) | (apply Sub.con; focus ((repeat (first | exact Pick.hd | apply Pick.tl)); done)) | (apply Sub.app; focus ((repeat (first | exact Pick.hd | apply Pick.tl)); done)) | apply Sub.drop)); done) | ((repeat (first | rw [List.append_assoc] | rw [List.cons_append] | rw [List.nil_append] | rw [List.append_nil])); (repeat (first | exact Sub.refl | exact Sub.nil | apply Sub.emp | (apply Sub.cons; focus ((repeat (first | exact Pick.hd | apply Pick.tl)); done)) | (apply Sub.con; focus ((repeat (first | exact Pick.hd | apply Pick.tl)); done)) | (apply Sub.app; focus ((repeat (first | exact Pick.hd | apply Pick.tl)); done)) | apply Sub.drop)); done))) ?_
    rintro i hi2
    try dsimp only
    refine Cod.seq ?_
    refine Cod.region ?_
    refine Ops.val (opV_lss rfl rfl (by first | exact decide_eq_true (by omega) | exact decide_eq_false (by omega) | rfl)) rfl ?_
    refine Ops.nil ?_
    refine Ex.next ?_
    refine Cod.seq ?_
    refine Cod.cond rfl (fun hc2 => ?_) (fun hc2 => ?_)
    · try simp at hc2
      obtain ⟨nm, hx⟩ : ∃ x, ns2[i]? = some x := ⟨_, List.getElem?_eq_getElem (by omega)⟩
      have hnm := (hmem2 nm).1 (List.mem_of_getElem? hx)
      refine Cod.skip ?_
      refine Ex.next ?_
      refine Cod.seq ?_
      refine Cod.block ?_
      refine Cod.seq ?_
      refine Cod.region ?_
      refine Ops.val (opV_indexAddr Fx.sl_67 rfl hAN2.sl (k := i) rfl (by omega)) rfl ?_
      refine Ops.val (opV_loadE Fx.scal_9 rfl hAN2.sl (.mem (by repeat (first | exact List.Mem.head _ | apply List.Mem.tail))) (u := S nm) (by simp [hx])) rfl ?_
      refine Ops.val (opV_assign rfl) rfl ?_
      refine Ops.nil ?_
      refine Ex.next ?_
      refine Cod.seq ?_
      refine Cod.region ?_
      refine Ops.val (opV_move rfl) rfl ?_
      refine Ops.val (opV_move rfl) rfl ?_
      refine Ops.call rfl (opC_call Fx.cal_144 rfl (fun w hw => generation_spec (base := base) (gen := cur) (size := sz) (d := p) hG hE hb (hnl nm hnm) hw (.mem (by repeat (first | exact List.Mem.head _ | apply List.Mem.tail))))) rfl ?_
      rintro v85 _ ⟨gr, rfl, hgr, rfl⟩
      refine Ops.val (opV_assign rfl) rfl ?_
      refine Ops.nil ?_
      refine Ex.next ?_
      refine Cod.seq ?_
      refine Cod.region ?_
      refine Ops.val (opV_move rfl) rfl ?_
      refine Ops.val (opV_gtr rfl rfl (by first | exact decide_eq_true (by omega) | exact decide_eq_false (by omega) | rfl)) rfl ?_
      refine Ops.val (opV_move rfl) rfl ?_
      refine Ops.cases 88 rfl (fun hg0 => ?_) (fun hg0 => ?_)
      · skip
        refine Ops.valg rfl (opV_move rfl) rfl ?_
        refine Ops.valg rfl (opV_move rfl) rfl ?_
        refine Ops.valg rfl (opV_nil rfl) rfl ?_
        refine Ops.valg rfl (opV_field Fx.fld_228_2 rfl) rfl ?_
        refine Ops.valg rfl (opV_load Fx.scal_3 rfl (by repeat (first | exact Cell.one rfl | assumption | apply Cell.tl))) rfl ?_
        refine Ops.valg rfl (opV_neq rfl rfl (decide_eq_false (fun q => q (by simp only [decide_eq_true_eq] at hg0; have hgr1 : 1 ≤ gr ∧ gr ≤ 999999999 ∧ nm = fileF base gr := (by rcases hgr.1 with h | h; omega; exact h); rw [uniq gr hgr1.1 hgr1.2.1 (by rw [← hgr1.2.2]; exact hnm)])))) rfl ?_
        refine Ops.val (opV_pickT rfl rfl) rfl ?_
        refine Ops.nil ?_
        refine Ex.next ?_
        refine Cod.condF rfl ?_
        refine Cod.skip ?_
        refine Ex.blockNormal ?_
        refine Ex.next ?_
        refine Cod.region ?_
        refine Ops.val (opV_add64 rfl rfl (by omega)) rfl ?_
        refine Ops.val (opV_move rfl) rfl ?_
        refine Ops.nil ?_
        refine Ex.toN (fun _ _ hs => ⟨i + 1, (by omega), (by first | omega | (dsimp only; omega) | (simp; omega) | (simp; done)), hs⟩) (by repeat (first | exact trivial | refine ⟨rfl, ?_⟩)) (fun _ h => h.subs (by first | ((repeat (first | exact Sub.refl | exact Sub.nil | apply Sub.emp | (apply Sub.cons; focus ((repeat (first | exact Pick.hd | apply Pick.tl)); done)) | (apply Sub.con; focus ((repeat (first | exact Pick.hd | apply Pick.tl)); done)) | (apply Sub.app; focus ((repeat (first | exact Pick.hd | apply Pick.tl)); done)) | apply Sub.drop)); done) | ((repeat (first | rw [List.append_assoc] | rw [List.cons_append] | rw [List.nil_append] | rw [List.append_nil])); (repeat (first | exact Sub.refl | exact Sub.nil | apply Sub.emp | (apply Sub.cons; focus ((repeat (first | exact Pick.hd | apply Pick.tl)); done)) | (apply Sub.con; focus ((repeat (first | exact Pick.hd | apply Pick.tl)); done)) | (apply Sub.app; focus ((repeat (first | exact Pick.hd | apply Pick.tl)); done)) | apply Sub.drop)); done)))
      · skip
        refine Ops.skipg rfl rfl ?_
        refine Ops.skipg rfl rfl ?_
        refine Ops.skipg rfl rfl ?_
        refine Ops.skipg rfl rfl ?_
        refine Ops.skipg rfl rfl ?_
        refine Ops.skipg rfl rfl ?_
        refine Ops.val (opV_pickF rfl rfl) rfl ?_
        refine Ops.nil ?_
        refine Ex.next ?_
        refine Cod.condF rfl ?_
        refine Cod.skip ?_
        refine Ex.blockNormal ?_
        refine Ex.next ?_
        refine Cod.region ?_
        refine Ops.val (opV_add64 rfl rfl (by omega)) rfl ?_
        refine Ops.val (opV_move rfl) rfl ?_
        refine Ops.nil ?_
        refine Ex.toN (fun _ _ hs => ⟨i + 1, (by omega), (by first | omega | (dsimp only; omega) | (simp; omega) | (simp; done)), hs⟩) (by repeat (first | exact trivial | refine ⟨rfl, ?_⟩)) (fun _ h => h.subs (by first | ((repeat (first | exact Sub.refl | exact Sub.nil | apply Sub.emp | (apply Sub.cons; focus ((repeat (first | exact Pick.hd | apply Pick.tl)); done)) | (apply Sub.con; focus ((repeat (first | exact Pick.hd | apply Pick.tl)); done)) | (apply Sub.app; focus ((repeat (first | exact Pick.hd | apply Pick.tl)); done)) | apply Sub.drop)); done) | ((repeat (first | rw [List.append_assoc] | rw [List.cons_append] | rw [List.nil_append] | rw [List.append_nil])); (repeat (first | exact Sub.refl | exact Sub.nil | apply Sub.emp | (apply Sub.cons; focus ((repeat (first | exact Pick.hd | apply Pick.tl)); done)) | (apply Sub.con; focus ((repeat (first | exact Pick.hd | apply Pick.tl)); done)) | (apply Sub.app; focus ((repeat (first | exact Pick.hd | apply Pick.tl)); done)) | apply Sub.drop)); done)))
    · try simp at hc2
      refine Cod.exit ?_
      refine Ex.thenExit ?_
      refine Ex.thenExit ?_
      refine Ex.blockHit ?_
      refine Ex.next ?_
      refine Cod.seq ?_
      refine Cod.seq ?_
      refine Cod.region ?_
      refine Ops.val (opV_move rfl) rfl ?_
      refine Ops.val (opV_nil rfl) rfl ?_
      refine Ops.val (opV_field Fx.fld_228_2 rfl) rfl ?_
      refine Ops.val (opV_load Fx.scal_3 rfl (by repeat (first | exact Cell.one rfl | assumption | apply Cell.tl))) rfl ?_
      refine Ops.val (opV_gtr rfl rfl (by first | exact decide_eq_true (by omega) | exact decide_eq_false (by omega) | rfl)) rfl ?_
      refine Ops.nil ?_
      refine Ex.next ?_
      refine Cod.cond rfl (fun hfin => ?_) (fun hfin => ?_)
      · try simp at hfin
        obtain ⟨o1, o2, o3, o4, o5, o6⟩ := hold (by omega)
        obtain ⟨_, _, rfl, hR8, hB8⟩ : cur = cur ∧ cur ≠ 0 ∧ sz = kk ∧ Row 29 1 v8 recs.length vs R8 ∧ BL A8 vs recs := by
            rcases hcur with ⟨h1, _⟩ | h
            · omega
            · exact h
        refine Cod.seq ?_
        refine Cod.draw [5, 10] [0, 1, 2, 3, 4, 7, 8, 9] (logB b35 p base cur sz :: []) [0, 1, 2, 3, 4, 5, 7, 8, 9, 10, 6, 11] M.mixed (by kernel_rfl) ?_
        refine AnyJ.valU rfl rfl rfl (opV_move rfl) rfl (fun _ _ _ h => h.2.elim) ?_
        refine AnyJ.valU rfl rfl rfl (opV_move rfl) rfl (fun _ _ _ h => h.2.elim) ?_
        refine AnyJ.valU rfl rfl rfl (opV_move rfl) rfl (fun _ _ _ h => h.2.elim) ?_
        refine AnyJ.valU rfl rfl rfl (opV_nil rfl) rfl (fun _ _ _ h => h.2.elim) ?_
        refine AnyJ.valU rfl rfl rfl (opV_field Fx.fld_228_2 rfl) rfl (fun _ _ _ h => h.2.elim) ?_
        refine AnyJ.val rfl rfl (opV_load Fx.scal_3 rfl (by repeat (first | exact Cell.one rfl | assumption | apply Cell.tl))) rfl (fun _ _ _ h => h.2.elim) (fun _ h => h.subs (by first | ((repeat (first | exact Sub.refl | exact Sub.nil | apply Sub.emp | (apply Sub.cons; focus ((repeat (first | exact Pick.hd | apply Pick.tl)); done)) | (apply Sub.con; focus ((repeat (first | exact Pick.hd | apply Pick.tl)); done)) | (apply Sub.app; focus ((repeat (first | exact Pick.hd | apply Pick.tl)); done)) | apply Sub.drop)); done) | ((repeat (first | rw [List.append_assoc] | rw [List.cons_append] | rw [List.nil_append] | rw [List.append_nil])); (repeat (first | exact Sub.refl | exact Sub.nil | apply Sub.emp | (apply Sub.cons; focus ((repeat (first | exact Pick.hd | apply Pick.tl)); done)) | (apply Sub.con; focus ((repeat (first | exact Pick.hd | apply Pick.tl)); done)) | (apply Sub.app; focus ((repeat (first | exact Pick.hd | apply Pick.tl)); done)) | apply Sub.drop)); done))) ?_
        refine AnyJ.valU rfl rfl rfl (opV_move rfl) rfl (fun _ _ _ h => h.2.elim) ?_
        refine AnyJ.valU rfl rfl rfl (opV_nil rfl) rfl (fun _ _ _ h => h.2.elim) ?_
        refine AnyJ.valU rfl rfl rfl (opV_field Fx.fld_228_3 rfl) rfl (fun _ _ _ h => h.2.elim) ?_
        refine AnyJ.val rfl rfl (opV_load Fx.scal_3 rfl (by repeat (first | exact Cell.one rfl | assumption | apply Cell.tl))) rfl (fun _ _ _ h => h.2.elim) (fun _ h => h.subs (by first | ((repeat (first | exact Sub.refl | exact Sub.nil | apply Sub.emp | (apply Sub.cons; focus ((repeat (first | exact Pick.hd | apply Pick.tl)); done)) | (apply Sub.con; focus ((repeat (first | exact Pick.hd | apply Pick.tl)); done)) | (apply Sub.app; focus ((repeat (first | exact Pick.hd | apply Pick.tl)); done)) | apply Sub.drop)); done) | ((repeat (first | rw [List.append_assoc] | rw [List.cons_append] | rw [List.nil_append] | rw [List.append_nil])); (repeat (first | exact Sub.refl | exact Sub.nil | apply Sub.emp | (apply Sub.cons; focus ((repeat (first | exact Pick.hd | apply Pick.tl)); done)) | (apply Sub.con; focus ((repeat (first | exact Pick.hd | apply Pick.tl)); done)) | (apply Sub.app; focus ((repeat (first | exact Pick.hd | apply Pick.tl)); done)) | apply Sub.drop)); done))) ?_
        refine AnyJ.call rfl rfl (opC_call Fx.cal_149 rfl (fun w hw => file_spec (base := base) (gen := cur) (size := sz) (d := p) hG (by omega) (by have := (good_file (n := cur) hb o2).2.1; omega) hw (.mem (by repeat (first | exact List.Mem.head _ | apply List.Mem.tail))))) rfl ?_
        rintro v111 _ ⟨rfl, rfl⟩
        refine ⟨(by first | (intro _ _ h; refine h.subs ?_; (repeat (first | exact Sub.refl | exact Sub.nil | apply Sub.emp | (apply Sub.cons; focus ((repeat (first | exact Pick.hd | apply Pick.tl)); done)) | (apply Sub.con; focus ((repeat (first | exact Pick.hd | apply Pick.tl)); done)) | (apply Sub.app; focus ((repeat (first | exact Pick.hd | apply Pick.tl)); done)) | apply Sub.drop)); done) | exact lead_no (by kernel_rfl)), ?_⟩
        refine AnyJ.call rfl rfl (opC_call Fx.cal_148 rfl (fun w hw => cut_spec o3 (Wh_le o4) o6 (by omega) hw (by repeat (first | exact Pick.hd | apply Pick.tl)) hD)) rfl ?_
        rintro v116 _ ⟨rfl, A', hA', rfl⟩
        refine ⟨(by first | (intro _ _ h; refine h.subs ?_; (repeat (first | exact Sub.refl | exact Sub.nil | apply Sub.emp | (apply Sub.cons; focus ((repeat (first | exact Pick.hd | apply Pick.tl)); done)) | (apply Sub.con; focus ((repeat (first | exact Pick.hd | apply Pick.tl)); done)) | (apply Sub.app; focus ((repeat (first | exact Pick.hd | apply Pick.tl)); done)) | apply Sub.drop)); done) | exact lead_no (by kernel_rfl)), ?_⟩
        refine AnyJ.nil ?_
        refine Ex.next ?_
        refine Cod.seq ?_
        refine Cod.region ?_
        refine Ops.val (opV_move rfl) rfl ?_
        refine Ops.val (opV_move rfl) rfl ?_
        refine Ops.val (opV_assign rfl) rfl ?_
        refine Ops.val (opV_assign rfl) rfl ?_
        refine Ops.val (opV_assign rfl) rfl ?_
        refine Ops.nil ?_
        refine Ex.next ?_
        refine Cod.ret ?_
        refine Ex.thenRet ?_
        exact Ex.ret3 rfl rfl rfl rfl (fun _ h => h.subs (by first | ((repeat (first | exact Sub.refl | exact Sub.nil | apply Sub.emp | (apply Sub.cons; focus ((repeat (first | exact Pick.hd | apply Pick.tl)); done)) | (apply Sub.con; focus ((repeat (first | exact Pick.hd | apply Pick.tl)); done)) | (apply Sub.app; focus ((repeat (first | exact Pick.hd | apply Pick.tl)); done)) | apply Sub.drop)); done) | ((repeat (first | rw [List.append_assoc] | rw [List.cons_append] | rw [List.nil_append] | rw [List.append_nil])); (repeat (first | exact Sub.refl | exact Sub.nil | apply Sub.emp | (apply Sub.cons; focus ((repeat (first | exact Pick.hd | apply Pick.tl)); done)) | (apply Sub.con; focus ((repeat (first | exact Pick.hd | apply Pick.tl)); done)) | (apply Sub.app; focus ((repeat (first | exact Pick.hd | apply Pick.tl)); done)) | apply Sub.drop)); done))) (.inl ⟨by omega, b35, v8, vs, R8, A8, A', rfl, hR8, hB8, hA', rfl⟩)
      · try simp at hfin
        obtain rfl : cur = 0 := by omega
        obtain ⟨rfl, rfl⟩ : sz = 0 ∧ v8 = .slice none 0 0 := by
            rcases hcur with ⟨_, h1, h2⟩ | ⟨_, h1, _⟩
            · exact ⟨h1, h2⟩
            · exact absurd rfl h1
        have hg1 := good_file (n := 1) hb (by omega)
        have hwn : (wrapped []).length = 8 := by rw [wrapped_length]; rfl
        by_cases hfit : (D.used : Int) + 8 ≤ D.room
        · skip
          refine Cod.skip ?_
          refine Ex.next ?_
          refine Cod.seq ?_
          refine Cod.region ?_
          refine Ops.val (opV_move rfl) rfl ?_
          refine Ops.val (opV_nil rfl) rfl ?_
          refine Ops.val (opV_field Fx.fld_228_2 rfl) rfl ?_
          refine Ops.st rfl (opS_store Fx.scal_3 Fx.sz1_3 rfl rfl (by first | rfl | assumption | exact Row.one (by assumption) | exact Sl.one (by assumption)) rfl (by repeat (first | exact Upd.hd | apply Upd.tl)) (by repeat (first | exact LSet.hd | apply LSet.tl))) ?_
          refine Ops.nil ?_
          refine Ex.next ?_
          refine Cod.seq ?_
          refine Cod.seq ?_
          refine Cod.region ?_
          refine Ops.val (opV_move rfl) rfl ?_
          refine Ops.call rfl (opC_call Fx.cal_63 rfl (fun w hw => logAppend_ok (rec_ := []) (gen := 1) (size := 0) (base := base) hG (by omega) hg1 (by omega) hu (by omega) hr.1 (by simp) (by rw [hwn]; exact hfit) rfl hw .hd (by exact .hd) hD .base (Sl.nil _ _))) rfl ?_
          rintro v123 _ ⟨rfl, A', hA', rfl⟩
          rw [hwn]
          refine Ops.val (opV_assign rfl) rfl ?_
          refine Ops.nil ?_
          refine Ex.next ?_
          refine Cod.seq ?_
          refine Cod.region ?_
          refine Ops.val (opV_move rfl) rfl ?_
          refine Ops.val (opV_neq rfl rfl (by first | exact decide_eq_true (by omega) | exact decide_eq_false (by omega) | rfl)) rfl ?_
          refine Ops.nil ?_
          refine Ex.next ?_
          refine Cod.condF rfl ?_
          refine Cod.skip ?_
          refine Ex.next ?_
          refine Cod.seq ?_
          refine Cod.region ?_
          refine Ops.val (opV_move rfl) rfl ?_
          refine Ops.call rfl (opC_call Fx.cal_73 rfl (fun w hw => logSync (append_ok hpo) (by rw [append_used, hwn]; omega) (by rw [append_pend]; omega) hw .hd (.mem (by repeat (first | exact List.Mem.head _ | apply List.Mem.tail))) hA')) rfl ?_
          rintro v128 _ ⟨rfl, A2, hA2, _, rfl⟩
          refine Ops.nil ?_
          refine Ex.next ?_
          refine Cod.seq ?_
          refine Cod.region ?_
          refine Ops.val (opV_move rfl) rfl ?_
          refine Ops.eff rfl (opE_buildSlice Fx.sl_22 rfl rfl (by first | (simp [fillL, rowCells, vcells, putAt]; rfl) | (simp [fillL, rowCells, vcells, putAt]; done) | rfl)) rfl ?_
          rintro _ _ ⟨b130, rfl, rfl⟩
          refine Ops.val (opV_assign rfl) rfl ?_
          refine Ops.val (opV_assign rfl) rfl ?_
          refine Ops.val (opV_assign rfl) rfl ?_
          refine Ops.nil ?_
          refine Ex.next ?_
          refine Cod.ret ?_
          exact Ex.ret3 rfl rfl rfl rfl (fun _ h => h.subs (by first | ((repeat (first | exact Sub.refl | exact Sub.nil | apply Sub.emp | (apply Sub.cons; focus ((repeat (first | exact Pick.hd | apply Pick.tl)); done)) | (apply Sub.con; focus ((repeat (first | exact Pick.hd | apply Pick.tl)); done)) | (apply Sub.app; focus ((repeat (first | exact Pick.hd | apply Pick.tl)); done)) | apply Sub.drop)); done) | ((repeat (first | rw [List.append_assoc] | rw [List.cons_append] | rw [List.nil_append] | rw [List.append_nil])); (repeat (first | exact Sub.refl | exact Sub.nil | apply Sub.emp | (apply Sub.cons; focus ((repeat (first | exact Pick.hd | apply Pick.tl)); done)) | (apply Sub.con; focus ((repeat (first | exact Pick.hd | apply Pick.tl)); done)) | (apply Sub.app; focus ((repeat (first | exact Pick.hd | apply Pick.tl)); done)) | apply Sub.drop)); done))) (.inr (.inl ⟨rfl, hfit, b35, _, _, _, [], A2, rfl, Row.made (n := 1) rfl (by simp [maxLen]), .cons (Sl.nil _ _) .nil, hA2, rfl⟩))
        · skip
          refine Cod.skip ?_
          refine Ex.next ?_
          refine Cod.seq ?_
          refine Cod.region ?_
          refine Ops.val (opV_move rfl) rfl ?_
          refine Ops.val (opV_nil rfl) rfl ?_
          refine Ops.val (opV_field Fx.fld_228_2 rfl) rfl ?_
          refine Ops.st rfl (opS_store Fx.scal_3 Fx.sz1_3 rfl rfl (by first | rfl | assumption | exact Row.one (by assumption) | exact Sl.one (by assumption)) rfl (by repeat (first | exact Upd.hd | apply Upd.tl)) (by repeat (first | exact LSet.hd | apply LSet.tl))) ?_
          refine Ops.nil ?_
          refine Ex.next ?_
          refine Cod.seq ?_
          refine Cod.seq ?_
          refine Cod.region ?_
          refine Ops.val (opV_move rfl) rfl ?_
          refine Ops.call rfl (opC_call Fx.cal_63 rfl (fun w hw => logAppend_full (rec_ := []) (gen := 1) (size := 0) (base := base) hG (by omega) hg1 hu hr (by simp) (by rw [hwn]; omega) rfl hw (.mem (List.Mem.head _)) (.mem (by repeat (first | exact List.Mem.head _ | apply List.Mem.tail))) hD .base (Sl.nil _ _))) rfl ?_
          rintro v123 _ ⟨rfl, rfl⟩
          refine Ops.val (opV_assign rfl) rfl ?_
          refine Ops.nil ?_
          refine Ex.next ?_
          refine Cod.seq ?_
          refine Cod.region ?_
          refine Ops.val (opV_move rfl) rfl ?_
          refine Ops.val (opV_neq rfl rfl (by first | exact decide_eq_true (by omega) | exact decide_eq_false (by omega) | rfl)) rfl ?_
          refine Ops.nil ?_
          refine Ex.next ?_
          refine Cod.condT rfl ?_
          refine Cod.seq ?_
          refine Cod.region ?_
          refine Ops.val (opV_move rfl) rfl ?_
          refine Ops.val (opV_assign rfl) rfl ?_
          refine Ops.val (opV_assign rfl) rfl ?_
          refine Ops.val (opV_assign rfl) rfl ?_
          refine Ops.nil ?_
          refine Ex.next ?_
          refine Cod.ret ?_
          refine Ex.thenRet ?_
          exact Ex.ret3 rfl rfl rfl rfl (fun _ h => h.subs (by first | ((repeat (first | exact Sub.refl | exact Sub.nil | apply Sub.emp | (apply Sub.cons; focus ((repeat (first | exact Pick.hd | apply Pick.tl)); done)) | (apply Sub.con; focus ((repeat (first | exact Pick.hd | apply Pick.tl)); done)) | (apply Sub.app; focus ((repeat (first | exact Pick.hd | apply Pick.tl)); done)) | apply Sub.drop)); done) | ((repeat (first | rw [List.append_assoc] | rw [List.cons_append] | rw [List.nil_append] | rw [List.append_nil])); (repeat (first | exact Sub.refl | exact Sub.nil | apply Sub.emp | (apply Sub.cons; focus ((repeat (first | exact Pick.hd | apply Pick.tl)); done)) | (apply Sub.con; focus ((repeat (first | exact Pick.hd | apply Pick.tl)); done)) | (apply Sub.app; focus ((repeat (first | exact Pick.hd | apply Pick.tl)); done)) | apply Sub.drop)); done))) (.inr (.inr ⟨rfl, by omega, rfl, A, hD, rfl⟩))
end
end Go.Proofs.YteejmoldhbfdnaaGreatDoor.Wal3
