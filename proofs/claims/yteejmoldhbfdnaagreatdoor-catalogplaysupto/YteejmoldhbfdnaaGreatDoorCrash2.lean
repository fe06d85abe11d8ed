/- Package disk: Crash. -/
import Derived.Test.YteejmoldhbfdnaaGreatDoorCrash
set_option maxRecDepth 8000
namespace Go.Proofs.YteejmoldhbfdnaaGreatDoor.Crash2
open Go.W Go.RowKit Lib1 Oct OctR Seal Disk Disk2 Crash
namespace Fx
theorem agg_166 : aggSz Tryz.prog 166 = some 3 := by kernel_rfl
theorem cal_61 : callable Tryz.prog 61 = true := by kernel_rfl
theorem cal_75 : callable Tryz.prog 75 = true := by kernel_rfl
theorem fld_144_0 : fieldOff Tryz.prog 144 0 = some 0 := by kernel_rfl
theorem fld_144_1 : fieldOff Tryz.prog 144 1 = some 1 := by kernel_rfl
theorem fld_163_1 : fieldOff Tryz.prog 163 1 = some 1 := by kernel_rfl
theorem fld_166_0 : fieldOff Tryz.prog 166 0 = some 0 := by kernel_rfl
theorem fld_166_1 : fieldOff Tryz.prog 166 1 = some 1 := by kernel_rfl
theorem fld_166_2 : fieldOff Tryz.prog 166 2 = some 2 := by kernel_rfl
theorem fld_42_0 : fieldOff Tryz.prog 42 0 = some 0 := by kernel_rfl
theorem fld_42_1 : fieldOff Tryz.prog 42 1 = some 1 := by kernel_rfl
theorem map_141 : mapInfo Tryz.prog 141 = some (.string, (.pointer none)) := by kernel_rfl
theorem map_164 : mapInfo Tryz.prog 164 = some (.string, (.slice none 0 0)) := by kernel_rfl
theorem ni_29 : notInt Tryz.prog 29 = true := by kernel_rfl
theorem ni_56 : notInt Tryz.prog 56 = true := by kernel_rfl
theorem scal_141 : scalarB Tryz.prog 141 = true := by kernel_rfl
theorem scal_142 : scalarB Tryz.prog 142 = true := by kernel_rfl
theorem scal_29 : scalarB Tryz.prog 29 = true := by kernel_rfl
theorem scal_3 : scalarB Tryz.prog 3 = true := by kernel_rfl
theorem scal_4 : scalarB Tryz.prog 4 = true := by kernel_rfl
theorem scal_40 : scalarB Tryz.prog 40 = true := by kernel_rfl
theorem scal_9 : scalarB Tryz.prog 9 = true := by kernel_rfl
theorem sl_142 : slInfo Tryz.prog 142 = some (166, 3, 48, some (.agg #[(S []), (.int .i64 0), (.slice none 0 0)])) := by kernel_rfl
theorem sl_29 : slInfo Tryz.prog 29 = some (5, 1, 1, some (.int .u8 0)) := by kernel_rfl
theorem sl_40 : slInfo Tryz.prog 40 = some (4, 1, 1, some (.bool false)) := by kernel_rfl
theorem sl_56 : slInfo Tryz.prog 56 = some (159, 2, 40, some (.agg #[(S []), (.slice none 0 0)])) := by kernel_rfl
theorem sl_67 : slInfo Tryz.prog 67 = some (9, 1, 16, some (S [])) := by kernel_rfl
theorem st_159 : stInfo Tryz.prog 159 = some (#[(S []), (.slice none 0 0)], #[(0, 1), (1, 1)]) := by kernel_rfl
theorem zero_166 : (Tryz.prog.info? 166).bind (·.zero) = some (.agg #[(S []), (.int .i64 0), (.slice none 0 0)]) := by kernel_rfl

end Fx
def RowP (v : Value) (a : Str) (B : Hp) : Prop := Row 5 1 v a.length (bcells a) B
abbrev Lefts (kvs : List (Str × Value)) (L : List (Str × Str)) (LA : Hp) : Prop := MapH RowP kvs L LA
theorem left_next {left : List (Str × Value)} {D : DK} {L : List (Str × Str)} {k s d : Str} (hnd : (left.map Prod.fst).Nodup) (hk : lkp k D.files = some (d, s)) (hL : ∀ nm, lkp nm L = if (lkp nm left).isSome = true then none else (lkp nm D.files).map (·.2)) :
    ∀ nm, lkp nm (ins k s L) = if (lkp nm (del k left)).isSome = true then none else (lkp nm D.files).map (·.2) := by
  intro nm
  rw [lkp_ins]
  by_cases h : k = nm
  · subst h; rw [if_pos rfl, lkp_del_self hnd, hk]; rfl
  · rw [if_neg h, lkp_del_ne h]; exact hL nm
theorem wr_cells {bb td : Str} {at_ : Nat} : putAt (bcells (bb ++ List.replicate (at_ + td.length - bb.length) 0)) (at_ * 1) (bcells td) = bcells (wr bb at_ td) := by
  rw [putAt_set _ _ _ (by simp [bcells]; omega)]
  unfold wr bcells
  rw [Nat.mul_one]
  simp only [List.map_append, List.map_take, List.map_drop, List.length_map]
theorem names_len (D : DK) : D.names.length = D.files.length := by simp [DK.names]
theorem names_mem {D : DK} {nm : Str} (h : nm ∈ D.names) : (lkp nm D.files).isSome = true := by
  unfold DK.names at h
  rw [List.mem_mergeSort] at h
  cases hq : lkp nm D.files with
  | none => exact absurd h (lkp_none.1 hq)
  | some y => rfl
section
variable {e : Ctx} {w : World} {As F : List Hp} {A B KA : Hp} {p kn : Nat} {v kv : Value} {vs : List Value} {D : DK} {keep : List Bool} {tear r : Int}
theorem crash_spec (hkn : kn = keep.length) (hfl : D.files.length ≤ 100000000) (hnl : ∀ x, (lkp x D.files).isSome = true → x.length ≤ 1000) (hu : D.used ≤ 900000000) (hft : Fits D) (hn : D.pend.length ≤ 100000000) (_hk9 : keep.length ≤ 1000000000)
    (hw : Owns e w As) (hA : Has e As A) (hD : DiskA p D A) (hKA : Has e As KA) (hk : Sl KA 1 kv kn (keep.map Value.bool)) :
    Calls Tryz.prog 23 #[.pointer (some ⟨p, 0, none⟩), .agg #[kv, .int .i64 tear]] w
      (Ret e fun u Bs => ∃ vs A' LA, Row 159 2 u (D.left keep tear).length vs A' ∧ FL LA vs (D.left keep tear) ∧ Bs = A' :: LA :: As) := by
  subst hkn
  have hD0 := hD
  have hkone := hk.one
  obtain ⟨mb, ob, pv, ps, FA, PR, PA, kvs, hM, hF, hR, hP, hAe⟩ := hD
  have hm1 : (p, Obj.cells #[.map (some mb), pv, .int .i64 D.room, .int .i64 (D.used : Int)] 144) ∈ A := by rw [hAe]; exact .head _
  have hm2 : (mb, ob) ∈ A := by rw [hAe]; exact .tail _ (.head _)
  have hm3 : ∀ x ∈ FA, x ∈ A := fun x hx => by rw [hAe]; exact .tail _ (.tail _ (List.mem_append.2 (.inl hx)))
  have hm4 : ∀ x ∈ PR, x ∈ A := fun x hx => by rw [hAe]; exact .tail _ (.tail _ (List.mem_append.2 (.inr (List.mem_append.2 (.inl hx)))))
  have hm5 : ∀ x ∈ PA, x ∈ A := fun x hx => by rw [hAe]; exact .tail _ (.tail _ (List.mem_append.2 (.inr (List.mem_append.2 (.inr hx)))))
  have hRs : Sl A 3 pv D.pend.length ps := hR.sl.mono hm4
  have hnd := MapO.nodup hM
  refine enter Tryz.func23 rfl Tryz.ntmps23 hw rfl ?_
  refine Cod.seq ?_
  refine Cod.region ?_
  refine Ops.eff rfl (opE_box rfl) rfl ?_
  rintro _ _ ⟨b3, rfl, rfl⟩
  refine Ops.val (opV_assign rfl) rfl ?_
  refine Ops.nil ?_
  refine Ex.next ?_
  refine Cod.seq ?_
  refine Cod.region ?_
  refine Ops.eff rfl opE_makeMap rfl ?_
  rintro _ _ ⟨b14, rfl, rfl⟩
  refine Ops.val (opV_assign rfl) rfl ?_
  refine Ops.nil ?_
  refine Ex.next ?_
  refine Cod.seq ?_
  refine Cod.seq ?_
  refine Cod.region ?_
  refine Ops.val (opV_move rfl) rfl ?_
  refine Ops.val (opV_nil rfl) rfl ?_
  refine Ops.val (opV_field Fx.fld_144_0 rfl) rfl ?_
  refine Ops.val (opV_load Fx.scal_141 rfl (cellOf (A := A) (by repeat (first | assumption | apply Has.up)) hm1 rfl)) rfl ?_
  refine Ops.eff rfl (opE_range (κ := Str) Fx.map_141 rfl hA.up.up hm2 hM ) rfl ?_
  rintro _ _ ⟨r19, io19, rfl, hI19, rfl⟩
  refine Ops.nil ?_
  refine Ex.next ?_
  refine Cod.block ?_
  refine Cod.loop (X := List (Str × Value) × Obj × Obj × List (Str × Value) × List (Str × Str) × Hp) (fun (left, io, ob2, kvs2, L, LA) => [(0, .pointer (some ⟨p, 0, none⟩)), (3, .pointer (some ⟨b3, 0, none⟩)), (4, .slice none 0 0), (5, .map (some b14)), (19, .pointer (some ⟨r19, 0, none⟩))]) (fun (left, io, ob2, kvs2, L, LA) => [(r19, io)] :: [(b14, ob2)] :: LA :: [(b3, .cells #[kv, .int .i64 tear] 42)] :: As) (fun (left, io, ob2, kvs2, L, LA) => IterO mb kvs left none ob io ∧ MapO (κ := Str) kvs2 ob2 ∧ Lefts kvs2 L LA ∧ (∀ nm, lkp nm L = if (lkp nm left).isSome = true then none else (lkp nm D.files).map (·.2))) (fun (left, io, ob2, kvs2, L, LA) => left.length) ((kvs, io19, .map #[] 0, [], [], [])) (⟨hI19, MapO.new rfl, .nil, fun nm => by cases hq : lkp nm kvs with | none => rw [(MapH.none_iff hF).1 hq]; rfl | some y => rfl⟩) (by repeat (first | exact trivial | refine ⟨rfl, ?_⟩)) (fun _ h => h.subs (by first | ((repeat (first | exact Sub.refl | exact Sub.nil | apply Sub.emp | (apply Sub.cons; focus ((repeat (first | exact Pick.hd | apply Pick.tl)); done)) | (apply Sub.con; focus ((repeat (first | exact Pick.hd | apply Pick.tl)); done)) | (apply Sub.app; focus ((repeat (first | exact Pick.hd | apply Pick.tl)); done)) | apply Sub.drop)); done) | ((repeat (first | rw [List.append_assoc] | rw [List.cons_append] | rw [List.nil_append] | rw [List.append_nil])); (repeat (first | exact Sub.refl | exact Sub.nil | apply Sub.emp | (apply Sub.cons; focus ((repeat (first | exact Pick.hd | apply Pick.tl)); done)) | (apply Sub.con; focus ((repeat (first | exact Pick.hd | apply Pick.tl)); done)) | (apply Sub.app; focus ((repeat (first | exact Pick.hd | apply Pick.tl)); done)) | apply Sub.drop)); done))) ?_
  rintro ⟨left, io, ob2, kvs2, L, LA⟩ ⟨hI, hM2, hLs, hL⟩
  try dsimp only
  refine Cod.seq ?_
  refine Cod.region ?_
  refine Ops.eff rfl (opE_next (hI) rfl (by repeat (first | exact Pick.hd | apply Pick.tl)) (by repeat (first | assumption | apply Has.up)) hm2) rfl ?_
  rintro v20 _ ⟨io', hn20, rfl⟩
  rcases hn20.symm with ⟨k, x, hkx, rfl, hI2⟩ | ⟨hl0, rfl, rfl⟩
  · skip
    have hlnd := hnd.sublist (hI.sub.map Prod.fst)
    have hkk : lkp k kvs = some x := lkp_of_mem hnd (hI.sub.subset hkx)
    have hkl : lkp k left = some x := lkp_of_mem hlnd hkx
    obtain ⟨⟨d, s⟩, BF, FA', e1, ⟨fb, dv, sv, R1, R2, rfl, hd1, hs1, rfl⟩, hpm, _, _, _⟩ := MapH.get hF hkk
    dsimp only at hd1 hs1
    have hinF : ∀ x ∈ (fb, Obj.cells #[dv, sv] 163) :: (R1 ++ R2), x ∈ A := fun x hx => hm3 x (hpm.mem_iff.2 (List.mem_append.2 (.inl hx)))
    have hsl := hft.safe k d s e1
    have hdu := usedF_le e1
    have hus : usedF D.files ≤ 900000000 := hu
    refine Ops.val (opV_extract rfl rfl) rfl ?_
    refine Ops.nil ?_
    refine Ex.next ?_
    refine Cod.seq ?_
    refine Cod.condT rfl ?_
    refine Cod.skip ?_
    refine Ex.next ?_
    refine Cod.block ?_
    refine Cod.seq ?_
    refine Cod.region ?_
    refine Ops.val (opV_entry (hI2) rfl (.mem (by repeat (first | exact List.Mem.head _ | apply List.Mem.tail))) (by repeat (first | assumption | apply Has.up)) hm2) rfl ?_
    refine Ops.val (opV_extract rfl rfl) rfl ?_
    refine Ops.val (opV_extract rfl rfl) rfl ?_
    refine Ops.val (opV_assign rfl) rfl ?_
    refine Ops.val (opV_assign rfl) rfl ?_
    refine Ops.nil ?_
    refine Ex.next ?_
    refine Cod.region ?_
    refine Ops.val (opV_move rfl) rfl ?_
    refine Ops.val (opV_move rfl) rfl ?_
    refine Ops.val (opV_move rfl) rfl ?_
    refine Ops.val (opV_nil rfl) rfl ?_
    refine Ops.val (opV_field Fx.fld_163_1 rfl) rfl ?_
    refine Ops.val (opV_load Fx.scal_29 rfl (cellOf (A := A) (i := 1) (by repeat (first | assumption | apply Has.up)) (hinF _ (List.Mem.head _)) rfl)) rfl ?_
    refine Ops.call rfl (opC_call Fx.cal_61 rfl (fun w hw => clone_bytes hw (hs1.sl.mono fun x hx => hinF x (.tail _ (List.mem_append.2 (.inr hx)))) (by repeat (first | assumption | apply Has.up)) (bcells_one _) (by omega) (by omega))) rfl ?_
    rintro v31 _ ⟨A31, hA31, rfl⟩
    refine Ops.stE rfl (opS_mapUpdate (κ := Str) Fx.map_164 rfl rfl rfl (by repeat (first | exact Pick.hd | apply Pick.tl)) hM2 ) ?_
    rintro _ ⟨ob3, hM3, rfl⟩
    have hLk : lkp k L = none := by rw [hL k, hkl]; rfl
    refine Ops.nil ?_
    refine Ex.blockNormal ?_
    refine Ex.toN (fun _ _ hs => ⟨(del k left, io', ob3, ins k v31 kvs2, ins k s L, A31 ++ LA), ⟨hI2.drop, hM3, MapH.add hLs ((MapH.none_iff hLs).2 hLk) hA31, left_next hlnd e1 hL⟩, (by have := del_len (k := k) (m := left) (by rw [hkl]; rfl); dsimp only; omega), hs⟩) (by repeat (first | exact trivial | refine ⟨rfl, ?_⟩)) (fun _ h => h.subs (by first | ((repeat (first | exact Sub.refl | exact Sub.nil | apply Sub.emp | (apply Sub.cons; focus ((repeat (first | exact Pick.hd | apply Pick.tl)); done)) | (apply Sub.con; focus ((repeat (first | exact Pick.hd | apply Pick.tl)); done)) | (apply Sub.app; focus ((repeat (first | exact Pick.hd | apply Pick.tl)); done)) | apply Sub.drop)); done) | ((repeat (first | rw [List.append_assoc] | rw [List.cons_append] | rw [List.nil_append] | rw [List.append_nil])); (repeat (first | exact Sub.refl | exact Sub.nil | apply Sub.emp | (apply Sub.cons; focus ((repeat (first | exact Pick.hd | apply Pick.tl)); done)) | (apply Sub.con; focus ((repeat (first | exact Pick.hd | apply Pick.tl)); done)) | (apply Sub.app; focus ((repeat (first | exact Pick.hd | apply Pick.tl)); done)) | apply Sub.drop)); done)))
  · skip
    subst hl0
    replace hL : ∀ nm, lkp nm L = (lkp nm D.files).map (·.2) := fun nm => by rw [hL nm]; rfl
    refine Ops.val (opV_extract rfl rfl) rfl ?_
    refine Ops.nil ?_
    refine Ex.next ?_
    refine Cod.seq ?_
    refine Cod.condF rfl ?_
    refine Cod.exit ?_
    refine Ex.thenExit ?_
    refine Ex.thenExit ?_
    refine Ex.blockHit ?_
    refine Ex.next ?_
    refine Cod.seq ?_
    refine Cod.seq ?_
    refine Cod.region ?_
    refine Ops.val (opV_move rfl) rfl ?_
    refine Ops.val (opV_nil rfl) rfl ?_
    refine Ops.val (opV_field Fx.fld_144_1 rfl) rfl ?_
    refine Ops.val (opV_load Fx.scal_142 rfl (cellOf (A := A) (by repeat (first | assumption | apply Has.up)) hm1 rfl)) rfl ?_
    refine Ops.val (opV_len Fx.sl_142 rfl hRs.isSlice) rfl ?_
    refine Ops.val (opV_move rfl) rfl ?_
    refine Ops.nil ?_
    refine Ex.next ?_
    refine Cod.block ?_
    refine Cod.loop (X := Nat × (Str → Str) × Obj × List (Str × Value) × List (Str × Str) × Hp) (fun (i, f, ob2, kvs2, L, LA) => [(0, .pointer (some ⟨p, 0, none⟩)), (3, .pointer (some ⟨b3, 0, none⟩)), (4, .slice none 0 0), (5, .map (some b14)), (35, pv), (36, .int .i64 D.pend.length), (37, .int .i64 (i : Int))]) (fun (i, f, ob2, kvs2, L, LA) => [(b14, ob2)] :: LA :: [(b3, .cells #[kv, .int .i64 tear] 42)] :: As) (fun (i, f, ob2, kvs2, L, LA) => i ≤ D.pend.length ∧ crashN keep tear D.pend.length (D.pend.drop i) i f = D.crash keep tear ∧ MapO (κ := Str) kvs2 ob2 ∧ Lefts kvs2 L LA ∧ (∀ nm, lkp nm L = (lkp nm D.files).map fun _ => f nm) ∧ (∀ nm d s, lkp nm D.files = some (d, s) → (f nm).length ≤ d.length)) (fun (i, f, ob2, kvs2, L, LA) => D.pend.length - i) ((0, D.safeF, ob2, kvs2, L, LA)) (⟨Nat.zero_le _, rfl, hM2, hLs, fun nm => by rw [hL nm]; unfold DK.safeF; cases lkp nm D.files <;> rfl, fun nm d s h => by have := hft.safe nm d s h; unfold DK.safeF; rw [h]; exact this⟩) (by repeat (first | exact trivial | refine ⟨rfl, ?_⟩)) (fun _ h => h.subs (by first | ((repeat (first | exact Sub.refl | exact Sub.nil | apply Sub.emp | (apply Sub.cons; focus ((repeat (first | exact Pick.hd | apply Pick.tl)); done)) | (apply Sub.con; focus ((repeat (first | exact Pick.hd | apply Pick.tl)); done)) | (apply Sub.app; focus ((repeat (first | exact Pick.hd | apply Pick.tl)); done)) | apply Sub.drop)); done) | ((repeat (first | rw [List.append_assoc] | rw [List.cons_append] | rw [List.nil_append] | rw [List.append_nil])); (repeat (first | exact Sub.refl | exact Sub.nil | apply Sub.emp | (apply Sub.cons; focus ((repeat (first | exact Pick.hd | apply Pick.tl)); done)) | (apply Sub.con; focus ((repeat (first | exact Pick.hd | apply Pick.tl)); done)) | (apply Sub.app; focus ((repeat (first | exact Pick.hd | apply Pick.tl)); done)) | apply Sub.drop)); done))) ?_
    rintro ⟨i, f, ob2, kvs2, L, LA⟩ ⟨hi, hcn, hM2, hLs, hL, hbd⟩
    try dsimp only
    refine Cod.seq ?_
    refine Cod.region ?_
    refine Ops.val (opV_lss rfl rfl (by first | exact decide_eq_true (by omega) | exact decide_eq_false (by omega) | rfl)) rfl ?_
    refine Ops.nil ?_
    refine Ex.next ?_
    refine Cod.seq ?_
    refine Cod.cond rfl (fun hc => ?_) (fun hc => ?_)
    · try simp at hc
      obtain ⟨⟨nm, at_, dd0⟩, hx⟩ : ∃ x, D.pend[i]? = some x := ⟨_, List.getElem?_eq_getElem (by omega)⟩
      obtain ⟨dv, hget, hdv⟩ := hP.get hx
      have hdone := hdv.one
      obtain ⟨d0, s0, hfl2, hfit⟩ := hft.pend _ (List.mem_of_getElem? hx)
      dsimp only at hfl2 hfit
      have hdrop : D.pend.drop i = (nm, at_, dd0) :: D.pend.drop (i + 1) := by rw [List.drop_eq_getElem_cons hc, (List.getElem?_eq_some_iff.1 hx).2]
      have hdu := usedF_le hfl2
      have hus : usedF D.files ≤ 900000000 := hu
      have hfb := hbd _ _ _ hfl2
      have hLk : lkp nm L = some (f nm) := by rw [hL nm, hfl2]; rfl
      obtain ⟨lv, hlv⟩ : ∃ v, lkp nm kvs2 = some v := by
          cases hq : lkp nm kvs2 with
          | none => rw [(MapH.none_iff hLs).1 hq] at hLk; cases hLk
          | some v => exact ⟨v, rfl⟩
      obtain ⟨bb, RB, LA', e1, hRB, hperm, k1, _, _⟩ := MapH.get hLs hlv
      rw [e1] at hLk
      obtain rfl : bb = f nm := Option.some.inj hLk
      have hkipF : keep[i]? ≠ some true → crash1 keep tear D.pend.length i (nm, at_, dd0) f = f := fun h => by unfold crash1; rw [if_neg h]
      have hskip : keep[i]? ≠ some true → crashN keep tear D.pend.length (D.pend.drop (i + 1)) (i + 1) f = D.crash keep tear := fun h => by rw [← hcn, hdrop]; simp only [crashN]; rw [hkipF h]
      refine Cod.skip ?_
      refine Ex.next ?_
      refine Cod.seq ?_
      refine Cod.block ?_
      refine Cod.seq ?_
      refine Cod.region ?_
      refine Ops.val (opV_move rfl) rfl ?_
      refine Ops.val (opV_indexAddr Fx.sl_142 rfl hRs (k := i) rfl (by omega)) rfl ?_
      refine Ops.val (opV_loadEA Fx.agg_166 rfl hRs (by repeat (first | assumption | apply Has.up)) hget rfl (by decide)) rfl ?_
      refine Ops.eff rfl (opE_alloc Fx.zero_166) rfl ?_
      rintro _ _ ⟨b9, rfl, rfl⟩
      refine Ops.val (opV_assign rfl) rfl ?_
      refine Ops.st rfl (opS_storeA Fx.agg_166 rfl rfl rfl (by (try simp only [putAt]); simp only [List.mem_cons, List.not_mem_nil, or_false]; (try simp only [forall_eq_or_imp]); (try simp only [forall_eq]); (repeat' apply And.intro) <;> first | rfl | assumption | exact Row.one (by assumption) | exact Sl.one (by assumption)) rfl (by repeat (first | exact Upd.hd | apply Upd.tl)) rfl) ?_
      refine Ops.nil ?_
      refine Ex.next ?_
      refine Cod.seq ?_
      refine Cod.seq ?_
      refine Cod.region ?_
      refine Ops.val (opV_move rfl) rfl ?_
      refine Ops.val (opV_field Fx.fld_42_0 rfl) rfl ?_
      refine Ops.val (opV_load Fx.scal_40 rfl (by repeat (first | exact Cell.one rfl | assumption | apply Cell.tl))) rfl ?_
      refine Ops.val (opV_len Fx.sl_40 rfl hk.isSlice) rfl ?_
      refine Ops.val (opV_geq rfl rfl (by first | exact decide_eq_true (by omega) | exact decide_eq_false (by omega) | rfl)) rfl ?_
      refine Ops.val (opV_move rfl) rfl ?_
      refine Ops.cases 47 rfl (fun hge => ?_) (fun hge => ?_)
      · skip
        refine Ops.skipg rfl rfl ?_
        refine Ops.skipg rfl rfl ?_
        refine Ops.skipg rfl rfl ?_
        refine Ops.skipg rfl rfl ?_
        refine Ops.skipg rfl rfl ?_
        refine Ops.skipg rfl rfl ?_
        refine Ops.val (opV_pickT rfl rfl) rfl ?_
        refine Ops.nil ?_
        refine Ex.next ?_
        refine Cod.condT rfl ?_
        have hge' : keep.length ≤ i := by have := of_decide_eq_true hge; omega
        refine Cod.exit ?_
        refine Ex.thenExit ?_
        refine Ex.blockHit ?_
        refine Ex.next ?_
        refine Cod.region ?_
        refine Ops.val (opV_add64 rfl rfl (by omega)) rfl ?_
        refine Ops.val (opV_move rfl) rfl ?_
        refine Ops.nil ?_
        refine Ex.toN (fun _ _ hs => ⟨(i + 1, f, ob2, kvs2, L, LA), ⟨by dsimp only; omega, hskip (by rw [List.getElem?_eq_none hge']; simp), hM2, hLs, hL, hbd⟩, (by first | omega | (dsimp only; omega) | (simp; omega) | (simp; done)), hs⟩) (by repeat (first | exact trivial | refine ⟨rfl, ?_⟩)) (fun _ h => h.subs (by first | ((repeat (first | exact Sub.refl | exact Sub.nil | apply Sub.emp | (apply Sub.cons; focus ((repeat (first | exact Pick.hd | apply Pick.tl)); done)) | (apply Sub.con; focus ((repeat (first | exact Pick.hd | apply Pick.tl)); done)) | (apply Sub.app; focus ((repeat (first | exact Pick.hd | apply Pick.tl)); done)) | apply Sub.drop)); done) | ((repeat (first | rw [List.append_assoc] | rw [List.cons_append] | rw [List.nil_append] | rw [List.append_nil])); (repeat (first | exact Sub.refl | exact Sub.nil | apply Sub.emp | (apply Sub.cons; focus ((repeat (first | exact Pick.hd | apply Pick.tl)); done)) | (apply Sub.con; focus ((repeat (first | exact Pick.hd | apply Pick.tl)); done)) | (apply Sub.app; focus ((repeat (first | exact Pick.hd | apply Pick.tl)); done)) | apply Sub.drop)); done)))
      · skip
        have hge' : i < keep.length := by have := of_decide_eq_false hge; omega
        obtain ⟨kb, hkb⟩ : ∃ b, keep[i]? = some b := ⟨_, List.getElem?_eq_getElem hge'⟩
        refine Ops.valg rfl (opV_field Fx.fld_42_0 rfl) rfl ?_
        refine Ops.valg rfl (opV_load Fx.scal_40 rfl (by repeat (first | exact Cell.one rfl | assumption | apply Cell.tl))) rfl ?_
        refine Ops.valg rfl (opV_move rfl) rfl ?_
        refine Ops.valg rfl (opV_indexAddr Fx.sl_40 rfl hk (k := i) rfl hge') rfl ?_
        refine Ops.valg rfl (opV_loadE Fx.scal_4 rfl hk (by repeat (first | assumption | apply Has.up)) (u := .bool kb) (by simp [hkb])) rfl ?_
        refine Ops.valg rfl (opV_not rfl) rfl ?_
        refine Ops.val (opV_pickF rfl rfl) rfl ?_
        refine Ops.nil ?_
        refine Ex.next ?_
        refine Cod.cond rfl (fun hkeep => ?_) (fun hkeep => ?_)
        · try simp at hkeep
          refine Cod.exit ?_
          refine Ex.thenExit ?_
          refine Ex.blockHit ?_
          refine Ex.next ?_
          refine Cod.region ?_
          refine Ops.val (opV_add64 rfl rfl (by omega)) rfl ?_
          refine Ops.val (opV_move rfl) rfl ?_
          refine Ops.nil ?_
          refine Ex.toN (fun _ _ hs => ⟨(i + 1, f, ob2, kvs2, L, LA), ⟨by dsimp only; omega, hskip (by rw [hkb]; simpa using hkeep), hM2, hLs, hL, hbd⟩, (by first | omega | (dsimp only; omega) | (simp; omega) | (simp; done)), hs⟩) (by repeat (first | exact trivial | refine ⟨rfl, ?_⟩)) (fun _ h => h.subs (by first | ((repeat (first | exact Sub.refl | exact Sub.nil | apply Sub.emp | (apply Sub.cons; focus ((repeat (first | exact Pick.hd | apply Pick.tl)); done)) | (apply Sub.con; focus ((repeat (first | exact Pick.hd | apply Pick.tl)); done)) | (apply Sub.app; focus ((repeat (first | exact Pick.hd | apply Pick.tl)); done)) | apply Sub.drop)); done) | ((repeat (first | rw [List.append_assoc] | rw [List.cons_append] | rw [List.nil_append] | rw [List.append_nil])); (repeat (first | exact Sub.refl | exact Sub.nil | apply Sub.emp | (apply Sub.cons; focus ((repeat (first | exact Pick.hd | apply Pick.tl)); done)) | (apply Sub.con; focus ((repeat (first | exact Pick.hd | apply Pick.tl)); done)) | (apply Sub.app; focus ((repeat (first | exact Pick.hd | apply Pick.tl)); done)) | apply Sub.drop)); done)))
        · try simp at hkeep
          replace hkeep : keep[i]? = some true := by rw [hkb]; simpa using hkeep
          refine Cod.skip ?_
          refine Ex.next ?_
          refine Cod.seq ?_
          refine Cod.region ?_
          refine Ops.val (opV_field Fx.fld_166_2 rfl) rfl ?_
          refine Ops.val (opV_load Fx.scal_29 rfl ((by repeat (first | exact Cell.one rfl | assumption | apply Cell.tl)))) rfl ?_
          refine Ops.val (opV_assign rfl) rfl ?_
          refine Ops.nil ?_
          refine Ex.next ?_
          refine Cod.seq ?_
          refine Cod.seq ?_
          refine Cod.region ?_
          refine Ops.val (opV_move rfl) rfl ?_
          refine Ops.val (opV_move rfl) rfl ?_
          refine Ops.val (opV_nil rfl) rfl ?_
          refine Ops.val (opV_field Fx.fld_144_1 rfl) rfl ?_
          refine Ops.val (opV_load Fx.scal_142 rfl (cellOf (A := A) (by repeat (first | assumption | apply Has.up)) hm1 rfl)) rfl ?_
          refine Ops.val (opV_len Fx.sl_142 rfl hRs.isSlice) rfl ?_
          refine Ops.val (opV_sub64 rfl rfl (by omega)) rfl ?_
          refine Ops.val (opV_eql rfl rfl (by first | exact decide_eq_true (by omega) | exact decide_eq_false (by omega) | rfl)) rfl ?_
          refine Ops.val (opV_move rfl) rfl ?_
          refine Ops.cases 65 rfl (fun hlast => ?_) (fun hlast => ?_)
          · skip
            refine Ops.valg rfl (opV_field Fx.fld_42_1 rfl) rfl ?_
            refine Ops.valg rfl (opV_load Fx.scal_3 rfl (by repeat (first | exact Cell.one rfl | assumption | apply Cell.tl))) rfl ?_
            refine Ops.valg rfl (opV_geq rfl rfl (by first | exact decide_eq_true (by omega) | exact decide_eq_false (by omega) | rfl)) rfl ?_
            refine Ops.val (opV_pickT rfl rfl) rfl ?_
            refine Ops.nil ?_
            refine Ex.next ?_
            refine Cod.cond rfl (fun htear => ?_) (fun htear => ?_)
            · try simp at htear
              obtain ⟨td, htd0⟩ : ∃ td, td = torn dd0 tear (decide (i + 1 = D.pend.length)) := ⟨_, rfl⟩
              have htd := htd0.symm
              have htl := torn_len dd0 tear (decide (i + 1 = D.pend.length))
              rw [htd] at htl
              have hlast' : i + 1 = D.pend.length := by have := of_decide_eq_true hlast; omega
              have htdd : td = dd0.take tear.toNat := by rw [htd0]; unfold torn; rw [if_pos ⟨decide_eq_true hlast', htear⟩]
              obtain ⟨tn, htn⟩ : ∃ n : Nat, tear = (n : Int) := ⟨tear.toNat, by omega⟩
              rw [show tear.toNat = tn by omega] at htdd
              refine Cod.region ?_
              refine Ops.val (opV_move rfl) rfl ?_
              refine Ops.val (opV_move rfl) rfl ?_
              refine Ops.val (opV_len Fx.sl_29 rfl hdv.isSlice) rfl ?_
              refine Ops.val (opV_field Fx.fld_42_1 rfl) rfl ?_
              refine Ops.val (opV_load Fx.scal_3 rfl (by repeat (first | exact Cell.one rfl | assumption | apply Cell.tl))) rfl ?_
              refine Ops.val (opV_min rfl rfl) rfl ?_
              refine Ops.val (opV_slice Fx.sl_29 rfl hdv (lo' := 0) (hi' := min dd0.length tn) rfl ⟨.i64, congrArg (fun z => some (Value.int .i64 z)) (show min (dd0.length : Int) tear = ((min dd0.length tn : Nat) : Int) by omega)⟩ (by omega) (by omega)) rfl ?_
              have hT := hdv.rsl (lo := 0) (hi := min dd0.length tn) (by omega) (by omega)
              have hTe : ((bcells dd0).drop (0 * 1)).take ((min dd0.length tn - 0) * 1) = bcells td := by rw [htdd]; simp [bcells, List.map_take]; omega
              have hTl : min dd0.length tn - 0 = td.length := by rw [htdd, List.length_take]; omega
              rw [hTe, hTl] at hT
              obtain ⟨tv, htv⟩ : ∃ tv, tv = rsl 1 0 (min dd0.length tn) dv := ⟨_, rfl⟩
              rw [← htv] at hT ⊢
              replace hT := hT.mono hm5
              refine Ops.val (opV_assign rfl) rfl ?_
              refine Ops.nil ?_
              refine Ex.next ?_
              refine Cod.seq ?_
              refine Cod.region ?_
              refine Ops.val (opV_move rfl) rfl ?_
              refine Ops.val (opV_field Fx.fld_166_0 rfl) rfl ?_
              refine Ops.val (opV_load Fx.scal_9 rfl (by repeat (first | exact Cell.one rfl | assumption | apply Cell.tl))) rfl ?_
              refine Ops.val (opV_lookup (κ := Str) Fx.map_164 rfl rfl (.mem (by repeat (first | exact List.Mem.head _ | apply List.Mem.tail))) (List.Mem.head _) hM2) rfl ?_
              rw [hlv]
              refine Ops.val (opV_assign rfl) rfl ?_
              refine Ops.nil ?_
              refine Ex.next ?_
              refine Cod.heap (fun _ h => Owns.rep (h.pick (A := LA) (by repeat (first | exact Pick.hd | apply Pick.tl))) hperm) ?_
              have hpad : ∃ pad, pad = at_ + td.length - (f nm).length := ⟨_, rfl⟩
              obtain ⟨pad, hpad⟩ := hpad
              refine Cod.seq ?_
              refine Cod.block ?_
              refine Cod.loop (X := Nat × Value × Hp) (fun (j, v, RB) => [(0, .pointer (some ⟨p, 0, none⟩)), (3, .pointer (some ⟨b3, 0, none⟩)), (4, .slice none 0 0), (5, .map (some b14)), (9, .pointer (some ⟨b9, 0, none⟩)), (10, tv), (11, v), (35, pv), (36, .int .i64 D.pend.length), (37, .int .i64 (i : Int))]) (fun (j, v, RB) => RB :: LA' :: [(b9, .cells #[S nm, .int .i64 (at_ : Int), dv] 166)] :: [(b14, ob2)] :: [(b3, .cells #[kv, .int .i64 tear] 42)] :: As) (fun (j, v, RB) => j ≤ pad ∧ Row 5 1 v (f nm ++ List.replicate j 0).length (bcells (f nm ++ List.replicate j 0)) RB) (fun (j, v, RB) => pad - j) ((0, _, RB)) (⟨Nat.zero_le _, by have h : Row 5 1 _ (f nm).length (bcells (f nm)) RB := hRB; simpa using h⟩) (by repeat (first | exact trivial | refine ⟨rfl, ?_⟩)) (fun _ h => h.subs (by first | ((repeat (first | exact Sub.refl | exact Sub.nil | apply Sub.emp | (apply Sub.cons; focus ((repeat (first | exact Pick.hd | apply Pick.tl)); done)) | (apply Sub.con; focus ((repeat (first | exact Pick.hd | apply Pick.tl)); done)) | (apply Sub.app; focus ((repeat (first | exact Pick.hd | apply Pick.tl)); done)) | apply Sub.drop)); done) | ((repeat (first | rw [List.append_assoc] | rw [List.cons_append] | rw [List.nil_append] | rw [List.append_nil])); (repeat (first | exact Sub.refl | exact Sub.nil | apply Sub.emp | (apply Sub.cons; focus ((repeat (first | exact Pick.hd | apply Pick.tl)); done)) | (apply Sub.con; focus ((repeat (first | exact Pick.hd | apply Pick.tl)); done)) | (apply Sub.app; focus ((repeat (first | exact Pick.hd | apply Pick.tl)); done)) | apply Sub.drop)); done))) ?_
              rintro ⟨j, bv2, RB2⟩ ⟨hj, hRB2⟩
              try dsimp only
              refine Cod.seq ?_
              refine Cod.seq ?_
              refine Cod.region ?_
              refine Ops.val (opV_move rfl) rfl ?_
              refine Ops.val (opV_len Fx.sl_29 rfl hRB2.isSlice) rfl ?_
              refine Ops.val (opV_field Fx.fld_166_1 rfl) rfl ?_
              refine Ops.val (opV_load Fx.scal_3 rfl (by repeat (first | exact Cell.one rfl | assumption | apply Cell.tl))) rfl ?_
              refine Ops.val (opV_move rfl) rfl ?_
              refine Ops.val (opV_len Fx.sl_29 rfl hT.isSlice) rfl ?_
              refine Ops.val (opV_add64 rfl rfl (by omega)) rfl ?_
              have hlj : (f nm ++ List.replicate j (0 : UInt8)).length = (f nm).length + j := by simp
              refine Ops.val (opV_lss rfl rfl (by first | exact decide_eq_true (by omega) | exact decide_eq_false (by omega) | rfl)) rfl ?_
              refine Ops.nil ?_
              refine Ex.next ?_
              refine Cod.cond rfl (fun hcj => ?_) (fun hcj => ?_)
              · try simp at hcj
                refine Cod.skip ?_
                refine Ex.next ?_
                refine Cod.block ?_
                refine Cod.region ?_
                refine Ops.val (opV_move rfl) rfl ?_
                refine Ops.eff rfl (opE_buildSlice Fx.sl_29 rfl rfl (by first | (simp [fillL, rowCells, vcells, putAt]; rfl) | (simp [fillL, rowCells, vcells, putAt]; done) | rfl)) rfl ?_
                rintro _ _ ⟨b90, rfl, rfl⟩
                refine Ops.eff rfl (opE_append Fx.sl_29 rfl Fx.ni_29 rfl rfl (by repeat (first | exact Pick.hd | apply Pick.tl)) hRB2 (one_src (.mem (by repeat (first | exact List.Mem.head _ | apply List.Mem.tail))) rfl (by simp [Value.oneCell'])) (by simp only [hlj]; omega) (by simp only [hlj, maxLen]; omega)) rfl ?_
                rintro v91 _ ⟨A91, hA91, rfl⟩
                refine Ops.val (opV_assign rfl) rfl ?_
                refine Ops.nil ?_
                refine Ex.blockNormal ?_
                refine Ex.toN (fun _ _ hs => ⟨(j + 1, v91, A91), ⟨by dsimp only; omega, by dsimp only; rw [List.replicate_succ', ← List.append_assoc]; simpa [bcells, Nat.add_assoc] using hA91⟩, (by first | omega | (dsimp only; omega) | (simp; omega) | (simp; done)), hs⟩) (by repeat (first | exact trivial | refine ⟨rfl, ?_⟩)) (fun _ h => h.subs (by first | ((repeat (first | exact Sub.refl | exact Sub.nil | apply Sub.emp | (apply Sub.cons; focus ((repeat (first | exact Pick.hd | apply Pick.tl)); done)) | (apply Sub.con; focus ((repeat (first | exact Pick.hd | apply Pick.tl)); done)) | (apply Sub.app; focus ((repeat (first | exact Pick.hd | apply Pick.tl)); done)) | apply Sub.drop)); done) | ((repeat (first | rw [List.append_assoc] | rw [List.cons_append] | rw [List.nil_append] | rw [List.append_nil])); (repeat (first | exact Sub.refl | exact Sub.nil | apply Sub.emp | (apply Sub.cons; focus ((repeat (first | exact Pick.hd | apply Pick.tl)); done)) | (apply Sub.con; focus ((repeat (first | exact Pick.hd | apply Pick.tl)); done)) | (apply Sub.app; focus ((repeat (first | exact Pick.hd | apply Pick.tl)); done)) | apply Sub.drop)); done)))
              · try simp at hcj
                obtain rfl : j = pad := by omega
                refine Cod.exit ?_
                refine Ex.thenExit ?_
                refine Ex.thenExit ?_
                refine Ex.blockHit ?_
                refine Ex.next ?_
                refine Cod.seq ?_
                refine Cod.region ?_
                refine Ops.val (opV_move rfl) rfl ?_
                refine Ops.val (opV_field Fx.fld_166_1 rfl) rfl ?_
                refine Ops.val (opV_load Fx.scal_3 rfl (by repeat (first | exact Cell.one rfl | assumption | apply Cell.tl))) rfl ?_
                refine Ops.val (opV_slice Fx.sl_29 rfl hRB2.sl (lo' := at_) (hi' := (f nm ++ List.replicate j (0 : UInt8)).length) ⟨_, rfl⟩ rfl (by rw [hlj]; omega) (Nat.le_refl _)) rfl ?_
                refine Ops.val (opV_move rfl) rfl ?_
                refine Ops.eff rfl (opE_copy Fx.sl_29 (by decide) rfl rfl (by repeat (first | exact Pick.hd | apply Pick.tl)) hRB2 (hT.src (by repeat (first | assumption | apply Has.up)) (bcells_one _)) (by rw [hlj]; omega) ) rfl ?_
                rintro _ _ ⟨rfl, A97, hA97, rfl⟩
                rw [hpad, wr_cells] at hA97
                have hwl : (f nm ++ List.replicate (at_ + td.length - (f nm).length) (0 : UInt8)).length = (wr (f nm) at_ td).length := by rw [wr_len]; simp; omega
                rw [hwl] at hA97
                refine Ops.nil ?_
                refine Ex.next ?_
                refine Cod.region ?_
                refine Ops.val (opV_move rfl) rfl ?_
                refine Ops.val (opV_field Fx.fld_166_0 rfl) rfl ?_
                refine Ops.val (opV_load Fx.scal_9 rfl (by repeat (first | exact Cell.one rfl | assumption | apply Cell.tl))) rfl ?_
                refine Ops.val (opV_move rfl) rfl ?_
                refine Ops.stE rfl (opS_mapUpdate (κ := Str) Fx.map_164 rfl rfl rfl (by repeat (first | exact Pick.hd | apply Pick.tl)) hM2 ) ?_
                rintro _ ⟨ob3, hM3, rfl⟩
                have hput := k1 _ (wr (f nm) at_ td) A97 hA97
                have hcr : crash1 keep tear D.pend.length i (nm, at_, dd0) f = fun x => if x = nm then wr (f nm) at_ td else f x := by unfold crash1; rw [if_pos hkeep]; rw [htd]
                refine Ops.nil ?_
                refine Ex.blockNormal ?_
                refine Ex.next ?_
                refine Cod.region ?_
                refine Ops.val (opV_add64 rfl rfl (by omega)) rfl ?_
                refine Ops.val (opV_move rfl) rfl ?_
                refine Ops.nil ?_
                refine Ex.toN (fun _ _ hs => ⟨(i + 1, crash1 keep tear D.pend.length i (nm, at_, dd0) f, ob3, ins nm _ kvs2, ins nm (wr (f nm) at_ td) L, A97 ++ LA'), ⟨by dsimp only; omega, by rw [← hcn, hdrop]; rfl, hM3, hput, by rw [hcr]; intro x; dsimp only; rw [lkp_ins]; by_cases hq : nm = x; (subst hq; rw [if_pos rfl, hfl2]; simp); (rw [if_neg hq, hL x]; cases lkp x D.files <;> simp; intro q; exact absurd q.symm hq), crash1_len ⟨d0, s0, hfl2, hfit⟩ hbd⟩, (by first | omega | (dsimp only; omega) | (simp; omega) | (simp; done)), hs⟩) (by repeat (first | exact trivial | refine ⟨rfl, ?_⟩)) (fun _ h => h.subs (by first | ((repeat (first | exact Sub.refl | exact Sub.nil | apply Sub.emp | (apply Sub.cons; focus ((repeat (first | exact Pick.hd | apply Pick.tl)); done)) | (apply Sub.con; focus ((repeat (first | exact Pick.hd | apply Pick.tl)); done)) | (apply Sub.app; focus ((repeat (first | exact Pick.hd | apply Pick.tl)); done)) | apply Sub.drop)); done) | ((repeat (first | rw [List.append_assoc] | rw [List.cons_append] | rw [List.nil_append] | rw [List.append_nil])); (repeat (first | exact Sub.refl | exact Sub.nil | apply Sub.emp | (apply Sub.cons; focus ((repeat (first | exact Pick.hd | apply Pick.tl)); done)) | (apply Sub.con; focus ((repeat (first | exact Pick.hd | apply Pick.tl)); done)) | (apply Sub.app; focus ((repeat (first | exact Pick.hd | apply Pick.tl)); done)) | apply Sub.drop)); done)))
            · try simp at htear
              have hlr : ¬ (decide (i + 1 = D.pend.length) = true ∧ 0 ≤ tear) := fun q => by have := q.2; omega
              obtain ⟨td, htd0⟩ : ∃ td, td = dd0 := ⟨_, rfl⟩
              have htd : torn dd0 tear (decide (i + 1 = D.pend.length)) = td := by rw [htd0]; unfold torn; rw [if_neg hlr]
              have htl := torn_len dd0 tear (decide (i + 1 = D.pend.length))
              rw [htd] at htl
              have hT : Sl A 1 dv td.length (bcells td) := by rw [htd0]; exact hdv.mono hm5
              refine Cod.skip ?_
              refine Ex.next ?_
              refine Cod.seq ?_
              refine Cod.region ?_
              refine Ops.val (opV_move rfl) rfl ?_
              refine Ops.val (opV_field Fx.fld_166_0 rfl) rfl ?_
              refine Ops.val (opV_load Fx.scal_9 rfl (by repeat (first | exact Cell.one rfl | assumption | apply Cell.tl))) rfl ?_
              refine Ops.val (opV_lookup (κ := Str) Fx.map_164 rfl rfl (.mem (by repeat (first | exact List.Mem.head _ | apply List.Mem.tail))) (List.Mem.head _) hM2) rfl ?_
              rw [hlv]
              refine Ops.val (opV_assign rfl) rfl ?_
              refine Ops.nil ?_
              refine Ex.next ?_
              refine Cod.heap (fun _ h => Owns.rep (h.pick (A := LA) (by repeat (first | exact Pick.hd | apply Pick.tl))) hperm) ?_
              have hpad : ∃ pad, pad = at_ + td.length - (f nm).length := ⟨_, rfl⟩
              obtain ⟨pad, hpad⟩ := hpad
              refine Cod.seq ?_
              refine Cod.block ?_
              refine Cod.loop (X := Nat × Value × Hp) (fun (j, v, RB) => [(0, .pointer (some ⟨p, 0, none⟩)), (3, .pointer (some ⟨b3, 0, none⟩)), (4, .slice none 0 0), (5, .map (some b14)), (9, .pointer (some ⟨b9, 0, none⟩)), (10, dv), (11, v), (35, pv), (36, .int .i64 D.pend.length), (37, .int .i64 (i : Int))]) (fun (j, v, RB) => RB :: LA' :: [(b9, .cells #[S nm, .int .i64 (at_ : Int), dv] 166)] :: [(b14, ob2)] :: [(b3, .cells #[kv, .int .i64 tear] 42)] :: As) (fun (j, v, RB) => j ≤ pad ∧ Row 5 1 v (f nm ++ List.replicate j 0).length (bcells (f nm ++ List.replicate j 0)) RB) (fun (j, v, RB) => pad - j) ((0, _, RB)) (⟨Nat.zero_le _, by have h : Row 5 1 _ (f nm).length (bcells (f nm)) RB := hRB; simpa using h⟩) (by repeat (first | exact trivial | refine ⟨rfl, ?_⟩)) (fun _ h => h.subs (by first | ((repeat (first | exact Sub.refl | exact Sub.nil | apply Sub.emp | (apply Sub.cons; focus ((repeat (first | exact Pick.hd | apply Pick.tl)); done)) | (apply Sub.con; focus ((repeat (first | exact Pick.hd | apply Pick.tl)); done)) | (apply Sub.app; focus ((repeat (first | exact Pick.hd | apply Pick.tl)); done)) | apply Sub.drop)); done) | ((repeat (first | rw [List.append_assoc] | rw [List.cons_append] | rw [List.nil_append] | rw [List.append_nil])); (repeat (first | exact Sub.refl | exact Sub.nil | apply Sub.emp | (apply Sub.cons; focus ((repeat (first | exact Pick.hd | apply Pick.tl)); done)) | (apply Sub.con; focus ((repeat (first | exact Pick.hd | apply Pick.tl)); done)) | (apply Sub.app; focus ((repeat (first | exact Pick.hd | apply Pick.tl)); done)) | apply Sub.drop)); done))) ?_
              rintro ⟨j, bv2, RB2⟩ ⟨hj, hRB2⟩
              try dsimp only
              refine Cod.seq ?_
              refine Cod.seq ?_
              refine Cod.region ?_
              refine Ops.val (opV_move rfl) rfl ?_
              refine Ops.val (opV_len Fx.sl_29 rfl hRB2.isSlice) rfl ?_
              refine Ops.val (opV_field Fx.fld_166_1 rfl) rfl ?_
              refine Ops.val (opV_load Fx.scal_3 rfl (by repeat (first | exact Cell.one rfl | assumption | apply Cell.tl))) rfl ?_
              refine Ops.val (opV_move rfl) rfl ?_
              refine Ops.val (opV_len Fx.sl_29 rfl hT.isSlice) rfl ?_
              refine Ops.val (opV_add64 rfl rfl (by omega)) rfl ?_
              have hlj : (f nm ++ List.replicate j (0 : UInt8)).length = (f nm).length + j := by simp
              refine Ops.val (opV_lss rfl rfl (by first | exact decide_eq_true (by omega) | exact decide_eq_false (by omega) | rfl)) rfl ?_
              refine Ops.nil ?_
              refine Ex.next ?_
              refine Cod.cond rfl (fun hcj => ?_) (fun hcj => ?_)
              · try simp at hcj
                refine Cod.skip ?_
                refine Ex.next ?_
                refine Cod.block ?_
                refine Cod.region ?_
                refine Ops.val (opV_move rfl) rfl ?_
                refine Ops.eff rfl (opE_buildSlice Fx.sl_29 rfl rfl (by first | (simp [fillL, rowCells, vcells, putAt]; rfl) | (simp [fillL, rowCells, vcells, putAt]; done) | rfl)) rfl ?_
                rintro _ _ ⟨b90, rfl, rfl⟩
                refine Ops.eff rfl (opE_append Fx.sl_29 rfl Fx.ni_29 rfl rfl (by repeat (first | exact Pick.hd | apply Pick.tl)) hRB2 (one_src (.mem (by repeat (first | exact List.Mem.head _ | apply List.Mem.tail))) rfl (by simp [Value.oneCell'])) (by simp only [hlj]; omega) (by simp only [hlj, maxLen]; omega)) rfl ?_
                rintro v91 _ ⟨A91, hA91, rfl⟩
                refine Ops.val (opV_assign rfl) rfl ?_
                refine Ops.nil ?_
                refine Ex.blockNormal ?_
                refine Ex.toN (fun _ _ hs => ⟨(j + 1, v91, A91), ⟨by dsimp only; omega, by dsimp only; rw [List.replicate_succ', ← List.append_assoc]; simpa [bcells, Nat.add_assoc] using hA91⟩, (by first | omega | (dsimp only; omega) | (simp; omega) | (simp; done)), hs⟩) (by repeat (first | exact trivial | refine ⟨rfl, ?_⟩)) (fun _ h => h.subs (by first | ((repeat (first | exact Sub.refl | exact Sub.nil | apply Sub.emp | (apply Sub.cons; focus ((repeat (first | exact Pick.hd | apply Pick.tl)); done)) | (apply Sub.con; focus ((repeat (first | exact Pick.hd | apply Pick.tl)); done)) | (apply Sub.app; focus ((repeat (first | exact Pick.hd | apply Pick.tl)); done)) | apply Sub.drop)); done) | ((repeat (first | rw [List.append_assoc] | rw [List.cons_append] | rw [List.nil_append] | rw [List.append_nil])); (repeat (first | exact Sub.refl | exact Sub.nil | apply Sub.emp | (apply Sub.cons; focus ((repeat (first | exact Pick.hd | apply Pick.tl)); done)) | (apply Sub.con; focus ((repeat (first | exact Pick.hd | apply Pick.tl)); done)) | (apply Sub.app; focus ((repeat (first | exact Pick.hd | apply Pick.tl)); done)) | apply Sub.drop)); done)))
              · try simp at hcj
                obtain rfl : j = pad := by omega
                refine Cod.exit ?_
                refine Ex.thenExit ?_
                refine Ex.thenExit ?_
                refine Ex.blockHit ?_
                refine Ex.next ?_
                refine Cod.seq ?_
                refine Cod.region ?_
                refine Ops.val (opV_move rfl) rfl ?_
                refine Ops.val (opV_field Fx.fld_166_1 rfl) rfl ?_
                refine Ops.val (opV_load Fx.scal_3 rfl (by repeat (first | exact Cell.one rfl | assumption | apply Cell.tl))) rfl ?_
                refine Ops.val (opV_slice Fx.sl_29 rfl hRB2.sl (lo' := at_) (hi' := (f nm ++ List.replicate j (0 : UInt8)).length) ⟨_, rfl⟩ rfl (by rw [hlj]; omega) (Nat.le_refl _)) rfl ?_
                refine Ops.val (opV_move rfl) rfl ?_
                refine Ops.eff rfl (opE_copy Fx.sl_29 (by decide) rfl rfl (by repeat (first | exact Pick.hd | apply Pick.tl)) hRB2 (hT.src (by repeat (first | assumption | apply Has.up)) (bcells_one _)) (by rw [hlj]; omega) ) rfl ?_
                rintro _ _ ⟨rfl, A97, hA97, rfl⟩
                rw [hpad, wr_cells] at hA97
                have hwl : (f nm ++ List.replicate (at_ + td.length - (f nm).length) (0 : UInt8)).length = (wr (f nm) at_ td).length := by rw [wr_len]; simp; omega
                rw [hwl] at hA97
                refine Ops.nil ?_
                refine Ex.next ?_
                refine Cod.region ?_
                refine Ops.val (opV_move rfl) rfl ?_
                refine Ops.val (opV_field Fx.fld_166_0 rfl) rfl ?_
                refine Ops.val (opV_load Fx.scal_9 rfl (by repeat (first | exact Cell.one rfl | assumption | apply Cell.tl))) rfl ?_
                refine Ops.val (opV_move rfl) rfl ?_
                refine Ops.stE rfl (opS_mapUpdate (κ := Str) Fx.map_164 rfl rfl rfl (by repeat (first | exact Pick.hd | apply Pick.tl)) hM2 ) ?_
                rintro _ ⟨ob3, hM3, rfl⟩
                have hput := k1 _ (wr (f nm) at_ td) A97 hA97
                have hcr : crash1 keep tear D.pend.length i (nm, at_, dd0) f = fun x => if x = nm then wr (f nm) at_ td else f x := by unfold crash1; rw [if_pos hkeep]; rw [htd]
                refine Ops.nil ?_
                refine Ex.blockNormal ?_
                refine Ex.next ?_
                refine Cod.region ?_
                refine Ops.val (opV_add64 rfl rfl (by omega)) rfl ?_
                refine Ops.val (opV_move rfl) rfl ?_
                refine Ops.nil ?_
                refine Ex.toN (fun _ _ hs => ⟨(i + 1, crash1 keep tear D.pend.length i (nm, at_, dd0) f, ob3, ins nm _ kvs2, ins nm (wr (f nm) at_ td) L, A97 ++ LA'), ⟨by dsimp only; omega, by rw [← hcn, hdrop]; rfl, hM3, hput, by rw [hcr]; intro x; dsimp only; rw [lkp_ins]; by_cases hq : nm = x; (subst hq; rw [if_pos rfl, hfl2]; simp); (rw [if_neg hq, hL x]; cases lkp x D.files <;> simp; intro q; exact absurd q.symm hq), crash1_len ⟨d0, s0, hfl2, hfit⟩ hbd⟩, (by first | omega | (dsimp only; omega) | (simp; omega) | (simp; done)), hs⟩) (by repeat (first | exact trivial | refine ⟨rfl, ?_⟩)) (fun _ h => h.subs (by first | ((repeat (first | exact Sub.refl | exact Sub.nil | apply Sub.emp | (apply Sub.cons; focus ((repeat (first | exact Pick.hd | apply Pick.tl)); done)) | (apply Sub.con; focus ((repeat (first | exact Pick.hd | apply Pick.tl)); done)) | (apply Sub.app; focus ((repeat (first | exact Pick.hd | apply Pick.tl)); done)) | apply Sub.drop)); done) | ((repeat (first | rw [List.append_assoc] | rw [List.cons_append] | rw [List.nil_append] | rw [List.append_nil])); (repeat (first | exact Sub.refl | exact Sub.nil | apply Sub.emp | (apply Sub.cons; focus ((repeat (first | exact Pick.hd | apply Pick.tl)); done)) | (apply Sub.con; focus ((repeat (first | exact Pick.hd | apply Pick.tl)); done)) | (apply Sub.app; focus ((repeat (first | exact Pick.hd | apply Pick.tl)); done)) | apply Sub.drop)); done)))
          · skip
            refine Ops.skipg rfl rfl ?_
            refine Ops.skipg rfl rfl ?_
            refine Ops.skipg rfl rfl ?_
            refine Ops.val (opV_pickF rfl rfl) rfl ?_
            refine Ops.nil ?_
            refine Ex.next ?_
            refine Cod.condF rfl ?_
            have hlr : ¬ (decide (i + 1 = D.pend.length) = true ∧ 0 ≤ tear) := fun q => by have h1 := of_decide_eq_true q.1; have h2 := of_decide_eq_false hlast; omega
            obtain ⟨td, htd0⟩ : ∃ td, td = dd0 := ⟨_, rfl⟩
            have htd : torn dd0 tear (decide (i + 1 = D.pend.length)) = td := by rw [htd0]; unfold torn; rw [if_neg hlr]
            have htl := torn_len dd0 tear (decide (i + 1 = D.pend.length))
            rw [htd] at htl
            have hT : Sl A 1 dv td.length (bcells td) := by rw [htd0]; exact hdv.mono hm5
            refine Cod.skip ?_
            refine Ex.next ?_
            refine Cod.seq ?_
            refine Cod.region ?_
            refine Ops.val (opV_move rfl) rfl ?_
            refine Ops.val (opV_field Fx.fld_166_0 rfl) rfl ?_
            refine Ops.val (opV_load Fx.scal_9 rfl (by repeat (first | exact Cell.one rfl | assumption | apply Cell.tl))) rfl ?_
            refine Ops.val (opV_lookup (κ := Str) Fx.map_164 rfl rfl (.mem (by repeat (first | exact List.Mem.head _ | apply List.Mem.tail))) (List.Mem.head _) hM2) rfl ?_
            rw [hlv]
            refine Ops.val (opV_assign rfl) rfl ?_
            refine Ops.nil ?_
            refine Ex.next ?_
            refine Cod.heap (fun _ h => Owns.rep (h.pick (A := LA) (by repeat (first | exact Pick.hd | apply Pick.tl))) hperm) ?_
            have hpad : ∃ pad, pad = at_ + td.length - (f nm).length := ⟨_, rfl⟩
            obtain ⟨pad, hpad⟩ := hpad
            refine Cod.seq ?_
            refine Cod.block ?_
            refine Cod.loop (X := Nat × Value × Hp) (fun (j, v, RB) => [(0, .pointer (some ⟨p, 0, none⟩)), (3, .pointer (some ⟨b3, 0, none⟩)), (4, .slice none 0 0), (5, .map (some b14)), (9, .pointer (some ⟨b9, 0, none⟩)), (10, dv), (11, v), (35, pv), (36, .int .i64 D.pend.length), (37, .int .i64 (i : Int))]) (fun (j, v, RB) => RB :: LA' :: [(b9, .cells #[S nm, .int .i64 (at_ : Int), dv] 166)] :: [(b14, ob2)] :: [(b3, .cells #[kv, .int .i64 tear] 42)] :: As) (fun (j, v, RB) => j ≤ pad ∧ Row 5 1 v (f nm ++ List.replicate j 0).length (bcells (f nm ++ List.replicate j 0)) RB) (fun (j, v, RB) => pad - j) ((0, _, RB)) (⟨Nat.zero_le _, by have h : Row 5 1 _ (f nm).length (bcells (f nm)) RB := hRB; simpa using h⟩) (by repeat (first | exact trivial | refine ⟨rfl, ?_⟩)) (fun _ h => h.subs (by first | ((repeat (first | exact Sub.refl | exact Sub.nil | apply Sub.emp | (apply Sub.cons; focus ((repeat (first | exact Pick.hd | apply Pick.tl)); done)) | (apply Sub.con; focus ((repeat (first | exact Pick.hd | apply Pick.tl)); done)) | (apply Sub.app; focus ((repeat (first | exact Pick.hd | apply Pick.tl)); done)) | apply Sub.drop)); done) | ((repeat (first | rw [List.append_assoc] | rw [List.cons_append] | rw [List.nil_append] | rw [List.append_nil])); (repeat (first | exact Sub.refl | exact Sub.nil | apply Sub.emp | (apply Sub.cons; focus ((repeat (first | exact Pick.hd | apply Pick.tl)); done)) | (apply Sub.con; focus ((repeat (first | exact Pick.hd | apply Pick.tl)); done)) | (apply Sub.app; focus ((repeat (first | exact Pick.hd | apply Pick.tl)); done)) | apply Sub.drop)); done))) ?_
            rintro ⟨j, bv2, RB2⟩ ⟨hj, hRB2⟩
            try dsimp only
            refine Cod.seq ?_
            refine Cod.seq ?_
            refine Cod.region ?_
            refine Ops.val (opV_move rfl) rfl ?_
            refine Ops.val (opV_len Fx.sl_29 rfl hRB2.isSlice) rfl ?_
            refine Ops.val (opV_field Fx.fld_166_1 rfl) rfl ?_
            refine Ops.val (opV_load Fx.scal_3 rfl (by repeat (first | exact Cell.one rfl | assumption | apply Cell.tl))) rfl ?_
            refine Ops.val (opV_move rfl) rfl ?_
            refine Ops.val (opV_len Fx.sl_29 rfl hT.isSlice) rfl ?_
            refine Ops.val (opV_add64 rfl rfl (by omega)) rfl ?_
            have hlj : (f nm ++ List.replicate j (0 : UInt8)).length = (f nm).length + j := by simp
            refine Ops.val (opV_lss rfl rfl (by first | exact decide_eq_true (by omega) | exact decide_eq_false (by omega) | rfl)) rfl ?_
            refine Ops.nil ?_
            refine Ex.next ?_
            refine Cod.cond rfl (fun hcj => ?_) (fun hcj => ?_)
            · try simp at hcj
              refine Cod.skip ?_
              refine Ex.next ?_
              refine Cod.block ?_
              refine Cod.region ?_
              refine Ops.val (opV_move rfl) rfl ?_
              refine Ops.eff rfl (opE_buildSlice Fx.sl_29 rfl rfl (by first | (simp [fillL, rowCells, vcells, putAt]; rfl) | (simp [fillL, rowCells, vcells, putAt]; done) | rfl)) rfl ?_
              rintro _ _ ⟨b90, rfl, rfl⟩
              refine Ops.eff rfl (opE_append Fx.sl_29 rfl Fx.ni_29 rfl rfl (by repeat (first | exact Pick.hd | apply Pick.tl)) hRB2 (one_src (.mem (by repeat (first | exact List.Mem.head _ | apply List.Mem.tail))) rfl (by simp [Value.oneCell'])) (by simp only [hlj]; omega) (by simp only [hlj, maxLen]; omega)) rfl ?_
              rintro v91 _ ⟨A91, hA91, rfl⟩
              refine Ops.val (opV_assign rfl) rfl ?_
              refine Ops.nil ?_
              refine Ex.blockNormal ?_
              refine Ex.toN (fun _ _ hs => ⟨(j + 1, v91, A91), ⟨by dsimp only; omega, by dsimp only; rw [List.replicate_succ', ← List.append_assoc]; simpa [bcells, Nat.add_assoc] using hA91⟩, (by first | omega | (dsimp only; omega) | (simp; omega) | (simp; done)), hs⟩) (by repeat (first | exact trivial | refine ⟨rfl, ?_⟩)) (fun _ h => h.subs (by first | ((repeat (first | exact Sub.refl | exact Sub.nil | apply Sub.emp | (apply Sub.cons; focus ((repeat (first | exact Pick.hd | apply Pick.tl)); done)) | (apply Sub.con; focus ((repeat (first | exact Pick.hd | apply Pick.tl)); done)) | (apply Sub.app; focus ((repeat (first | exact Pick.hd | apply Pick.tl)); done)) | apply Sub.drop)); done) | ((repeat (first | rw [List.append_assoc] | rw [List.cons_append] | rw [List.nil_append] | rw [List.append_nil])); (repeat (first | exact Sub.refl | exact Sub.nil | apply Sub.emp | (apply Sub.cons; focus ((repeat (first | exact Pick.hd | apply Pick.tl)); done)) | (apply Sub.con; focus ((repeat (first | exact Pick.hd | apply Pick.tl)); done)) | (apply Sub.app; focus ((repeat (first | exact Pick.hd | apply Pick.tl)); done)) | apply Sub.drop)); done)))
            · try simp at hcj
              obtain rfl : j = pad := by omega
              refine Cod.exit ?_
              refine Ex.thenExit ?_
              refine Ex.thenExit ?_
              refine Ex.blockHit ?_
              refine Ex.next ?_
              refine Cod.seq ?_
              refine Cod.region ?_
              refine Ops.val (opV_move rfl) rfl ?_
              refine Ops.val (opV_field Fx.fld_166_1 rfl) rfl ?_
              refine Ops.val (opV_load Fx.scal_3 rfl (by repeat (first | exact Cell.one rfl | assumption | apply Cell.tl))) rfl ?_
              refine Ops.val (opV_slice Fx.sl_29 rfl hRB2.sl (lo' := at_) (hi' := (f nm ++ List.replicate j (0 : UInt8)).length) ⟨_, rfl⟩ rfl (by rw [hlj]; omega) (Nat.le_refl _)) rfl ?_
              refine Ops.val (opV_move rfl) rfl ?_
              refine Ops.eff rfl (opE_copy Fx.sl_29 (by decide) rfl rfl (by repeat (first | exact Pick.hd | apply Pick.tl)) hRB2 (hT.src (by repeat (first | assumption | apply Has.up)) (bcells_one _)) (by rw [hlj]; omega) ) rfl ?_
              rintro _ _ ⟨rfl, A97, hA97, rfl⟩
              rw [hpad, wr_cells] at hA97
              have hwl : (f nm ++ List.replicate (at_ + td.length - (f nm).length) (0 : UInt8)).length = (wr (f nm) at_ td).length := by rw [wr_len]; simp; omega
              rw [hwl] at hA97
              refine Ops.nil ?_
              refine Ex.next ?_
              refine Cod.region ?_
              refine Ops.val (opV_move rfl) rfl ?_
              refine Ops.val (opV_field Fx.fld_166_0 rfl) rfl ?_
              refine Ops.val (opV_load Fx.scal_9 rfl (by repeat (first | exact Cell.one rfl | assumption | apply Cell.tl))) rfl ?_
              refine Ops.val (opV_move rfl) rfl ?_
              refine Ops.stE rfl (opS_mapUpdate (κ := Str) Fx.map_164 rfl rfl rfl (by repeat (first | exact Pick.hd | apply Pick.tl)) hM2 ) ?_
              rintro _ ⟨ob3, hM3, rfl⟩
              have hput := k1 _ (wr (f nm) at_ td) A97 hA97
              have hcr : crash1 keep tear D.pend.length i (nm, at_, dd0) f = fun x => if x = nm then wr (f nm) at_ td else f x := by unfold crash1; rw [if_pos hkeep]; rw [htd]
              refine Ops.nil ?_
              refine Ex.blockNormal ?_
              refine Ex.next ?_
              refine Cod.region ?_
              refine Ops.val (opV_add64 rfl rfl (by omega)) rfl ?_
              refine Ops.val (opV_move rfl) rfl ?_
              refine Ops.nil ?_
              refine Ex.toN (fun _ _ hs => ⟨(i + 1, crash1 keep tear D.pend.length i (nm, at_, dd0) f, ob3, ins nm _ kvs2, ins nm (wr (f nm) at_ td) L, A97 ++ LA'), ⟨by dsimp only; omega, by rw [← hcn, hdrop]; rfl, hM3, hput, by rw [hcr]; intro x; dsimp only; rw [lkp_ins]; by_cases hq : nm = x; (subst hq; rw [if_pos rfl, hfl2]; simp); (rw [if_neg hq, hL x]; cases lkp x D.files <;> simp; intro q; exact absurd q.symm hq), crash1_len ⟨d0, s0, hfl2, hfit⟩ hbd⟩, (by first | omega | (dsimp only; omega) | (simp; omega) | (simp; done)), hs⟩) (by repeat (first | exact trivial | refine ⟨rfl, ?_⟩)) (fun _ h => h.subs (by first | ((repeat (first | exact Sub.refl | exact Sub.nil | apply Sub.emp | (apply Sub.cons; focus ((repeat (first | exact Pick.hd | apply Pick.tl)); done)) | (apply Sub.con; focus ((repeat (first | exact Pick.hd | apply Pick.tl)); done)) | (apply Sub.app; focus ((repeat (first | exact Pick.hd | apply Pick.tl)); done)) | apply Sub.drop)); done) | ((repeat (first | rw [List.append_assoc] | rw [List.cons_append] | rw [List.nil_append] | rw [List.append_nil])); (repeat (first | exact Sub.refl | exact Sub.nil | apply Sub.emp | (apply Sub.cons; focus ((repeat (first | exact Pick.hd | apply Pick.tl)); done)) | (apply Sub.con; focus ((repeat (first | exact Pick.hd | apply Pick.tl)); done)) | (apply Sub.app; focus ((repeat (first | exact Pick.hd | apply Pick.tl)); done)) | apply Sub.drop)); done)))
    · try simp at hc
      obtain rfl : i = D.pend.length := by omega
      rw [List.drop_length] at hcn
      simp only [crashN] at hcn
      subst hcn
      refine Cod.exit ?_
      refine Ex.thenExit ?_
      refine Ex.thenExit ?_
      refine Ex.blockHit ?_
      refine Ex.next ?_
      refine Cod.seq ?_
      refine Cod.seq ?_
      refine Cod.region ?_
      refine Ops.val (opV_move rfl) rfl ?_
      refine Ops.call rfl (opC_call Fx.cal_75 rfl (fun w hw => Kit.names (by omega) (fun x hx => by have := hnl x hx; omega) hw (A := A) (by repeat (first | assumption | apply Has.up)) hD0)) rfl ?_
      rintro v104 _ ⟨ns, AN, hAN, hns, rfl⟩
      obtain rfl : ns = D.names := hns
      have hnml := names_len D
      refine Ops.val (opV_len Fx.sl_67 rfl hAN.isSlice) rfl ?_
      refine Ops.val (opV_move rfl) rfl ?_
      refine Ops.nil ?_
      refine Ex.next ?_
      refine Cod.block ?_
      refine Cod.loop (X := Nat × Value × List Value × Hp) (fun (i, u, vs, A2) => [(4, u), (5, .map (some b14)), (104, v104), (105, .int .i64 D.names.length), (106, .int .i64 (i : Int))]) (fun (i, u, vs, A2) => A2 :: AN :: [(b14, ob2)] :: LA :: As) (fun (i, u, vs, A2) => i ≤ D.names.length ∧ Row 159 2 u i vs A2 ∧ FL LA vs ((D.left keep tear).take i)) (fun (i, u, vs, A2) => D.names.length - i) ((0, .slice none 0 0, [], [])) (⟨Nat.zero_le _, Row.nil _ _, .nil⟩) (by repeat (first | exact trivial | refine ⟨rfl, ?_⟩)) (fun _ h => h.subs (by first | ((repeat (first | exact Sub.refl | exact Sub.nil | apply Sub.emp | (apply Sub.cons; focus ((repeat (first | exact Pick.hd | apply Pick.tl)); done)) | (apply Sub.con; focus ((repeat (first | exact Pick.hd | apply Pick.tl)); done)) | (apply Sub.app; focus ((repeat (first | exact Pick.hd | apply Pick.tl)); done)) | apply Sub.drop)); done) | ((repeat (first | rw [List.append_assoc] | rw [List.cons_append] | rw [List.nil_append] | rw [List.append_nil])); (repeat (first | exact Sub.refl | exact Sub.nil | apply Sub.emp | (apply Sub.cons; focus ((repeat (first | exact Pick.hd | apply Pick.tl)); done)) | (apply Sub.con; focus ((repeat (first | exact Pick.hd | apply Pick.tl)); done)) | (apply Sub.app; focus ((repeat (first | exact Pick.hd | apply Pick.tl)); done)) | apply Sub.drop)); done))) ?_
      rintro ⟨i, u, vs, A2⟩ ⟨hi, hA2, hFL⟩
      try dsimp only
      refine Cod.seq ?_
      refine Cod.region ?_
      refine Ops.val (opV_lss rfl rfl (by first | exact decide_eq_true (by omega) | exact decide_eq_false (by omega) | rfl)) rfl ?_
      refine Ops.nil ?_
      refine Ex.next ?_
      refine Cod.seq ?_
      refine Cod.cond rfl (fun hc => ?_) (fun hc => ?_)
      · try simp at hc
        obtain ⟨nm, hx⟩ : ∃ x, D.names[i]? = some x := ⟨_, List.getElem?_eq_getElem (by omega)⟩
        obtain ⟨⟨d, s⟩, hfl2⟩ := Option.isSome_iff_exists.1 (names_mem (List.mem_of_getElem? hx))
        have hLk : lkp nm L = some (D.crash keep tear nm) := by rw [hL nm, hfl2]; rfl
        obtain ⟨lv, hlv⟩ : ∃ v, lkp nm kvs2 = some v := by
            cases hq : lkp nm kvs2 with
            | none => rw [(MapH.none_iff hLs).1 hq] at hLk; cases hLk
            | some v => exact ⟨v, rfl⟩
        obtain ⟨bb, RB, LA', e1, hRB, hperm, _, _, _⟩ := MapH.get hLs hlv
        rw [e1] at hLk
        obtain rfl : bb = D.crash keep tear nm := Option.some.inj hLk
        have hin : ∀ x ∈ RB, x ∈ LA := fun x hx => hperm.mem_iff.2 (List.mem_append.2 (.inl hx))
        have hRs : Sl LA 1 lv (D.crash keep tear nm).length (bcells (D.crash keep tear nm)) := (Row.sl hRB).mono hin
        obtain ⟨al, cl, rfl⟩ := hRs.isSlice
        have hl9 : (D.left keep tear).length = D.names.length := by simp [DK.left]
        have hlx : (D.left keep tear)[i]? = some (nm, D.crash keep tear nm) := by simp [DK.left, List.getElem?_map, hx]
        refine Cod.skip ?_
        refine Ex.next ?_
        refine Cod.seq ?_
        refine Cod.block ?_
        refine Cod.seq ?_
        refine Cod.region ?_
        refine Ops.val (opV_indexAddr Fx.sl_67 rfl hAN.sl (k := i) rfl (by omega)) rfl ?_
        refine Ops.val (opV_loadE Fx.scal_9 rfl hAN.sl (.mem (by repeat (first | exact List.Mem.head _ | apply List.Mem.tail))) (u := S nm) (by simp [hx])) rfl ?_
        refine Ops.val (opV_assign rfl) rfl ?_
        refine Ops.nil ?_
        refine Ex.next ?_
        refine Cod.region ?_
        refine Ops.val (opV_move rfl) rfl ?_
        refine Ops.val (opV_move rfl) rfl ?_
        refine Ops.val (opV_move rfl) rfl ?_
        refine Ops.val (opV_move rfl) rfl ?_
        refine Ops.val (opV_lookup (κ := Str) Fx.map_164 rfl rfl (.mem (by repeat (first | exact List.Mem.head _ | apply List.Mem.tail))) (List.Mem.head _) hM2) rfl ?_
        rw [hlv]
        refine Ops.val (opV_build Fx.st_159 rfl (by first | (simp [fillL, vcells, putAt]; rfl) | (simp [fillL, vcells, putAt]; done) | rfl)) rfl ?_
        refine Ops.eff rfl (opE_buildSlice Fx.sl_56 rfl rfl (by first | (simp [fillL, rowCells, vcells, putAt]; rfl) | (simp [fillL, rowCells, vcells, putAt]; done) | rfl)) rfl ?_
        rintro _ _ ⟨b116, rfl, rfl⟩
        refine Ops.eff rfl (opE_append Fx.sl_56 rfl Fx.ni_56 rfl rfl (by repeat (first | exact Pick.hd | apply Pick.tl)) hA2 (one_src (.mem (by repeat (first | exact List.Mem.head _ | apply List.Mem.tail))) rfl (by simp [Value.oneCell'])) (by omega) (by simp [maxLen]; omega)) rfl ?_
        rintro v117 _ ⟨A117, hA117, rfl⟩
        refine Ops.val (opV_assign rfl) rfl ?_
        refine Ops.nil ?_
        refine Ex.blockNormal ?_
        refine Ex.next ?_
        refine Cod.region ?_
        refine Ops.val (opV_add64 rfl rfl (by omega)) rfl ?_
        refine Ops.val (opV_move rfl) rfl ?_
        refine Ops.nil ?_
        refine Ex.toN (fun _ _ hs => ⟨(i + 1, v117, _, A117), ⟨by dsimp only; omega, hA117, by rw [List.take_add_one, hlx]; simpa using hFL.snoc hRs⟩, (by first | omega | (dsimp only; omega) | (simp; omega) | (simp; done)), hs⟩) (by repeat (first | exact trivial | refine ⟨rfl, ?_⟩)) (fun _ h => h.subs (by first | ((repeat (first | exact Sub.refl | exact Sub.nil | apply Sub.emp | (apply Sub.cons; focus ((repeat (first | exact Pick.hd | apply Pick.tl)); done)) | (apply Sub.con; focus ((repeat (first | exact Pick.hd | apply Pick.tl)); done)) | (apply Sub.app; focus ((repeat (first | exact Pick.hd | apply Pick.tl)); done)) | apply Sub.drop)); done) | ((repeat (first | rw [List.append_assoc] | rw [List.cons_append] | rw [List.nil_append] | rw [List.append_nil])); (repeat (first | exact Sub.refl | exact Sub.nil | apply Sub.emp | (apply Sub.cons; focus ((repeat (first | exact Pick.hd | apply Pick.tl)); done)) | (apply Sub.con; focus ((repeat (first | exact Pick.hd | apply Pick.tl)); done)) | (apply Sub.app; focus ((repeat (first | exact Pick.hd | apply Pick.tl)); done)) | apply Sub.drop)); done)))
      · try simp at hc
        obtain rfl : i = D.names.length := by omega
        have hl9 : (D.left keep tear).length = D.names.length := by simp [DK.left]
        rw [List.take_of_length_le (by omega)] at hFL
        refine Cod.exit ?_
        refine Ex.thenExit ?_
        refine Ex.thenExit ?_
        refine Ex.blockHit ?_
        refine Ex.next ?_
        refine Cod.seq ?_
        refine Cod.region ?_
        refine Ops.val (opV_move rfl) rfl ?_
        refine Ops.val (opV_assign rfl) rfl ?_
        refine Ops.nil ?_
        refine Ex.next ?_
        refine Cod.ret ?_
        exact Ex.ret1 rfl rfl (fun _ h => h.subs (by first | ((repeat (first | exact Sub.refl | exact Sub.nil | apply Sub.emp | (apply Sub.cons; focus ((repeat (first | exact Pick.hd | apply Pick.tl)); done)) | (apply Sub.con; focus ((repeat (first | exact Pick.hd | apply Pick.tl)); done)) | (apply Sub.app; focus ((repeat (first | exact Pick.hd | apply Pick.tl)); done)) | apply Sub.drop)); done) | ((repeat (first | rw [List.append_assoc] | rw [List.cons_append] | rw [List.nil_append] | rw [List.append_nil])); (repeat (first | exact Sub.refl | exact Sub.nil | apply Sub.emp | (apply Sub.cons; focus ((repeat (first | exact Pick.hd | apply Pick.tl)); done)) | (apply Sub.con; focus ((repeat (first | exact Pick.hd | apply Pick.tl)); done)) | (apply Sub.app; focus ((repeat (first | exact Pick.hd | apply Pick.tl)); done)) | apply Sub.drop)); done))) ⟨vs, A2, LA, by rw [hl9]; exact hA2, hFL, rfl⟩
end
end Go.Proofs.YteejmoldhbfdnaaGreatDoor.Crash2
