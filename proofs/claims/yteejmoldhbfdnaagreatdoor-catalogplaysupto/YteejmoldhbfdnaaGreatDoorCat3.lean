/- Package catalog: Commit, Compact. -/
import Derived.Test.YteejmoldhbfdnaaGreatDoorCat2
import Derived.Test.YteejmoldhbfdnaaGreatDoorDiskL
import Derived.Test.YteejmoldhbfdnaaGreatDoorCore6
set_option maxRecDepth 8000
namespace Go.Proofs.YteejmoldhbfdnaaGreatDoor.Cat3
open Go.W Go.RowKit Lib1 Oct OctR Seal Disk Disk2 Wal Num Wal2 Wal3 CatL Cat Cat2
namespace Fx
theorem agg_51 : aggSz Tryz.prog 51 = some 3 := by kernel_rfl
theorem cal_63 : callable Tryz.prog 63 = true := by kernel_rfl
theorem cal_68 : callable Tryz.prog 68 = true := by kernel_rfl
theorem cal_69 : callable Tryz.prog 69 = true := by kernel_rfl
theorem cal_70 : callable Tryz.prog 70 = true := by kernel_rfl
theorem cal_71 : callable Tryz.prog 71 = true := by kernel_rfl
theorem cal_72 : callable Tryz.prog 72 = true := by kernel_rfl
theorem cal_73 : callable Tryz.prog 73 = true := by kernel_rfl
theorem fld_154_0 : fieldOff Tryz.prog 154 0 = some 0 := by kernel_rfl
theorem fld_154_1 : fieldOff Tryz.prog 154 1 = some 1 := by kernel_rfl
theorem fld_154_2 : fieldOff Tryz.prog 154 2 = some 2 := by kernel_rfl
theorem fld_51_1 : fieldOff Tryz.prog 51 1 = some 1 := by kernel_rfl
theorem fld_51_2 : fieldOff Tryz.prog 51 2 = some 2 := by kernel_rfl
theorem map_149 : mapInfo Tryz.prog 149 = some (.string, (.agg #[(S [])])) := by kernel_rfl
theorem scal_136 : scalarB Tryz.prog 136 = true := by kernel_rfl
theorem scal_149 : scalarB Tryz.prog 149 = true := by kernel_rfl
theorem scal_3 : scalarB Tryz.prog 3 = true := by kernel_rfl
theorem scal_4 : scalarB Tryz.prog 4 = true := by kernel_rfl
theorem scal_9 : scalarB Tryz.prog 9 = true := by kernel_rfl
theorem sl_39 : slInfo Tryz.prog 39 = some (51, 3, 40, some (.agg #[(S []), (S []), (.bool false)])) := by kernel_rfl
theorem st_154 : stInfo Tryz.prog 154 = some (#[(.pointer none), (.map none), (.int .i64 0)], #[(0, 1), (1, 1), (2, 1)]) := by kernel_rfl
theorem sz1_149 : (Tryz.prog.info? 149).map (·.size) = some 1 := by kernel_rfl
theorem sz1_3 : (Tryz.prog.info? 3).map (·.size) = some 1 := by kernel_rfl
theorem sz1_9 : (Tryz.prog.info? 9).map (·.size) = some 1 := by kernel_rfl
theorem zero_51 : (Tryz.prog.info? 51).bind (·.zero) = some (.agg #[(S []), (S []), (.bool false)]) := by kernel_rfl

end Fx
def catB : Str := [99, 97, 116, 97, 108, 111, 103]
theorem okCat : okBase catB := by
  refine ⟨by decide, by decide, ?_⟩
  intro c hc
  simp only [catB, List.mem_cons, List.not_mem_nil, or_false] at hc
  rcases hc with rfl | rfl | rfl | rfl | rfl | rfl | rfl <;> exact ⟨.inl (by decide), by decide⟩
theorem chs_at {cs : List Ch} {i : Nat} {c : Ch} (h : cs[i]? = some c) : (chs cs)[i * 3 + 0]? = some (S c.key) ∧ (chs cs)[i * 3 + 1]? = some (S c.val) ∧ (chs cs)[i * 3 + 2]? = some (.bool c.del) := by
  have h1 : (cs.map chV)[i]? = some (chV c) := by rw [List.getElem?_map, h]; rfl
  exact ⟨flatten_get chV_len h1 (by omega), flatten_get chV_len h1 (by omega), flatten_get chV_len h1 (by omega)⟩
/-- Is it made? -/
def doneF (es : List Pr) (cs : List Ch) : Bool := decide (checkF cs = 0 ∧ cs ≠ [] ∧ (afterE es cs).length ≤ 10000 ∧ sumB (afterE es cs) ≤ 500000)
def codeF (es : List Pr) (cs : List Ch) : Int := if checkF cs ≠ 0 ∨ cs = [] then checkF cs else if 10000 < (afterE es cs).length ∨ 500000 < sumB (afterE es cs) then 6 else 0
def putD (D : DK) (gen : Nat) (rec_ : Str) : DK := (D.append (fileF catB gen) (wrapped rec_)).sync
section
variable {e : Ctx} {w : World} {As F G H : List Hp} {A B DA VA : Hp} {c d lb gen size : Nat} {es : List Pr} {cs : List Ch} {v u lv : Value} {x : Ch} {D : DK}
theorem cloneMap {mb : Nat} {ob : Obj} {kvs : List (Str × Value)} (hw : Owns e w As) (hA : Has e As A) (hm : (mb, ob) ∈ A) (hM : MapO kvs ob) :
    Calls Tryz.prog 70 #[.map (some mb)] w (Ret e fun u Bs => ∃ b, u = .map (some b) ∧ Bs = [(b, ob)] :: As) := by
  obtain ⟨es, clock, rfl, _⟩ := hM
  refine Calls.mono (AnyW.maps_Clone Tryz.clone70 mb es clock w (hw.has hA hm)) ?_
  rintro en w' ⟨rfl, rfl⟩
  exact ⟨_, ⟨_, rfl, rfl⟩, hw.alloc _⟩
theorem chs_one (cs : List Ch) : ∀ u ∈ chs cs, u.oneCell' = true := by
  intro u hu
  obtain ⟨l, hl, hu⟩ := List.mem_flatten.1 hu
  obtain ⟨x, _, rfl⟩ := List.mem_map.1 hl
  simp only [chV, List.mem_cons, List.not_mem_nil, or_false] at hu
  rcases hu with rfl | rfl | rfl <;> rfl
theorem bad_code (h : checkF cs ≠ 0) : codeF es cs = checkF cs ∧ doneF es cs = false := by
  unfold codeF doneF
  exact ⟨by rw [if_pos (.inl h)], decide_eq_false fun q => h q.1⟩
theorem nil_code (h : cs = []) : codeF es cs = checkF cs ∧ doneF es cs = false := by
  unfold codeF doneF
  exact ⟨by rw [if_pos (.inr h)], decide_eq_false fun q => q.2.1 h⟩
theorem full_code (h0 : checkF cs = 0) (h1 : cs ≠ []) (h : 10000 < (afterE es cs).length ∨ 500000 < sumB (afterE es cs)) : codeF es cs = 6 ∧ doneF es cs = false := by
  unfold codeF doneF
  exact ⟨by rw [if_neg (by intro q; rcases q with q | q; exact q h0; exact h1 q), if_pos h], decide_eq_false fun q => by omega⟩
theorem done_code (h0 : checkF cs = 0) (h1 : cs ≠ []) (h : ¬ (10000 < (afterE es cs).length ∨ 500000 < sumB (afterE es cs))) : codeF es cs = 0 ∧ doneF es cs = true := by
  unfold codeF doneF
  exact ⟨by rw [if_neg (by intro q; rcases q with q | q; exact q h0; exact h1 q), if_neg h], decide_eq_true ⟨h0, h1, by omega, by omega⟩⟩
/-- What stands behind a Commit. -/
def CommitR (c d lb gen size : Nat) (es : List Pr) (cs : List Ch) (D : DK) (H : List Hp) (u : Value) (Bs : List Hp) : Prop :=
  u = .int .i64 (codeF es cs) ∧ ∃ A' DA', CatM c (.pointer (some ⟨lb, 0, none⟩)) (if doneF es cs then afterE es cs else es) A' ∧ DiskA d (if doneF es cs then putD D gen (encF (made cs)) else D) DA' ∧
    Bs = A' :: DA' :: logB lb d catB gen (if doneF es cs then size + (wrapped (encF (made cs))).length else size) :: H
theorem commit_same {k : Int} (h : codeF es cs = k ∧ doneF es cs = false) (hC : CatM c (.pointer (some ⟨lb, 0, none⟩)) es A) (hD : DiskA d D DA) : CommitR c d lb gen size es cs D H (.int .i64 k) (A :: DA :: logB lb d catB gen size :: H) := by
  refine ⟨by rw [h.1], A, DA, ?_, ?_, ?_⟩
  · rw [h.2]; exact hC
  · rw [h.2]; exact hD
  · rw [h.2]; rfl
theorem commit_done (h : codeF es cs = 0 ∧ doneF es cs = true) (hC : CatM c (.pointer (some ⟨lb, 0, none⟩)) (afterE es cs) A) (hD : DiskA d (putD D gen (encF (made cs))) DA) : CommitR c d lb gen size es cs D H (.int .i64 0) (A :: DA :: logB lb d catB gen (size + (wrapped (encF (made cs))).length) :: H) := by
  refine ⟨by rw [h.1], A, DA, ?_, ?_, ?_⟩
  · rw [h.2]; exact hC
  · rw [h.2]; exact hD
  · rw [h.2]; rfl
theorem commit_spec {m : Nat} (hm : m = cs.length) (hG : Glob e) (hl : sumB es + (cs.map chW).sum ≤ 800000000) (hn : es.length + cs.length ≤ 100000000) (hnd : (es.map Prod.fst).Nodup) (hk : gen ≤ 999999999) (hs : size ≤ 900000000)
    (hu : D.used ≤ 800000000) (hpn : D.pend.length < 100000000) (hpo : PendOK D) (hr : D.room ≤ 9223372036854775807) (hf : (D.used : Int) + 1100000 ≤ D.room)
    (hw : Owns e w As) (hp : Pick As A F) (hq : Pick F DA G) (hL : Pick G (logB lb d catB gen size) H) (hC : CatM c (.pointer (some ⟨lb, 0, none⟩)) es A) (hD : DiskA d D DA) (hVA : Has e H VA) (hv : Sl VA 3 v m (chs cs)) :
    Calls Tryz.prog 18 #[.pointer (some ⟨c, 0, none⟩), v] w (Ret e (CommitR c d lb gen size es cs D H)) := by
  subst hm
  have hC0 := hC
  obtain ⟨mb, ob, hM, rfl⟩ := hC
  have hg := good_file (b := catB) (n := gen) okCat hk
  have hml := made_len cs
  have hmW := made_W cs
  have hmC := made_C cs
  have hn9 := len_chW cs
  have hsum := afterE_sum hnd cs
  refine enter Tryz.func18 rfl Tryz.ntmps18 (((hw.pick2 hp hq).split).pick (.tl (.tl (.tl hL)))) rfl ?_
  refine Cod.seq ?_
  refine Cod.region ?_
  refine Ops.val (opV_assign rfl) rfl ?_
  refine Ops.nil ?_
  refine Ex.next ?_
  refine Cod.seq ?_
  refine Cod.seq ?_
  refine Cod.region ?_
  refine Ops.val (opV_move rfl) rfl ?_
  refine Ops.call rfl (opC_call Fx.cal_68 rfl (fun w hw => check_spec rfl (by omega) hw hVA.up.up.up.up hv)) rfl ?_
  rintro v13 _ ⟨rfl, rfl⟩
  refine Ops.val (opV_assign rfl) rfl ?_
  refine Ops.nil ?_
  refine Ex.next ?_
  refine Cod.seq ?_
  refine Cod.region ?_
  refine Ops.val (opV_move rfl) rfl ?_
  refine Ops.val (opV_neq rfl rfl rfl) rfl ?_
  refine Ops.val (opV_move rfl) rfl ?_
  refine Ops.cases 16 rfl (fun hck => ?_) (fun hck => ?_)
  · skip
    refine Ops.skipg rfl rfl ?_
    refine Ops.skipg rfl rfl ?_
    refine Ops.skipg rfl rfl ?_
    refine Ops.val (opV_pickT rfl rfl) rfl ?_
    refine Ops.nil ?_
    refine Ex.next ?_
    refine Cod.condT rfl ?_
    refine Cod.seq ?_
    refine Cod.region ?_
    refine Ops.val (opV_move rfl) rfl ?_
    refine Ops.val (opV_assign rfl) rfl ?_
    refine Ops.nil ?_
    refine Ex.next ?_
    refine Cod.ret ?_
    refine Ex.thenRet ?_
    exact Ex.ret1 rfl rfl (fun _ h => h.subs (by first | ((repeat (first | exact Sub.refl | exact Sub.nil | apply Sub.emp | (apply Sub.cons; focus ((repeat (first | exact Pick.hd | apply Pick.tl)); done)) | (apply Sub.con; focus ((repeat (first | exact Pick.hd | apply Pick.tl)); done)) | (apply Sub.app; focus ((repeat (first | exact Pick.hd | apply Pick.tl)); done)) | apply Sub.drop)); done) | ((repeat (first | rw [List.append_assoc] | rw [List.cons_append] | rw [List.nil_append] | rw [List.append_nil])); (repeat (first | exact Sub.refl | exact Sub.nil | apply Sub.emp | (apply Sub.cons; focus ((repeat (first | exact Pick.hd | apply Pick.tl)); done)) | (apply Sub.con; focus ((repeat (first | exact Pick.hd | apply Pick.tl)); done)) | (apply Sub.app; focus ((repeat (first | exact Pick.hd | apply Pick.tl)); done)) | apply Sub.drop)); done))) (commit_same (bad_code (by simpa using hck)) hC0 hD)
  · skip
    have h0 : checkF cs = 0 := by simpa using hck
    refine Ops.valg rfl (opV_move rfl) rfl ?_
    refine Ops.valg rfl (opV_len Fx.sl_39 rfl hv.isSlice) rfl ?_
    refine Ops.valg rfl (opV_eql rfl rfl rfl) rfl ?_
    refine Ops.val (opV_pickF rfl rfl) rfl ?_
    refine Ops.nil ?_
    refine Ex.next ?_
    refine Cod.cond rfl (fun hemp => ?_) (fun hemp => ?_)
    · try simp at hemp
      have hnil : cs = [] := by simpa using hemp
      refine Cod.seq ?_
      refine Cod.region ?_
      refine Ops.val (opV_move rfl) rfl ?_
      refine Ops.val (opV_assign rfl) rfl ?_
      refine Ops.nil ?_
      refine Ex.next ?_
      refine Cod.ret ?_
      refine Ex.thenRet ?_
      exact Ex.ret1 rfl rfl (fun _ h => h.subs (by first | ((repeat (first | exact Sub.refl | exact Sub.nil | apply Sub.emp | (apply Sub.cons; focus ((repeat (first | exact Pick.hd | apply Pick.tl)); done)) | (apply Sub.con; focus ((repeat (first | exact Pick.hd | apply Pick.tl)); done)) | (apply Sub.app; focus ((repeat (first | exact Pick.hd | apply Pick.tl)); done)) | apply Sub.drop)); done) | ((repeat (first | rw [List.append_assoc] | rw [List.cons_append] | rw [List.nil_append] | rw [List.append_nil])); (repeat (first | exact Sub.refl | exact Sub.nil | apply Sub.emp | (apply Sub.cons; focus ((repeat (first | exact Pick.hd | apply Pick.tl)); done)) | (apply Sub.con; focus ((repeat (first | exact Pick.hd | apply Pick.tl)); done)) | (apply Sub.app; focus ((repeat (first | exact Pick.hd | apply Pick.tl)); done)) | apply Sub.drop)); done))) (commit_same (nil_code hnil) hC0 hD)
    · try simp at hemp
      have hnil : cs ≠ [] := by simpa using hemp
      refine Cod.skip ?_
      refine Ex.next ?_
      refine Cod.seq ?_
      refine Cod.region ?_
      refine Ops.val (opV_move rfl) rfl ?_
      refine Ops.call rfl (opC_call Fx.cal_69 rfl (fun w hw => clone_changes hw hv hVA.up.up.up.up (chs_one cs) (by omega) (by omega))) rfl ?_
      rintro v23 _ ⟨A60, hA60, rfl⟩
      refine Ops.val (opV_assign rfl) rfl ?_
      refine Ops.nil ?_
      refine Ex.next ?_
      refine Cod.seq ?_
      refine Cod.seq ?_
      refine Cod.region ?_
      refine Ops.val (opV_move rfl) rfl ?_
      refine Ops.val (opV_len Fx.sl_39 rfl hA60.isSlice) rfl ?_
      refine Ops.val (opV_move rfl) rfl ?_
      refine Ops.nil ?_
      refine Ex.next ?_
      refine Cod.block ?_
      refine Cod.loop (X := Nat × Hp) (fun (i, A6) => [(0, .pointer (some ⟨c, 0, none⟩)), (6, v23), (24, v23), (25, .int .i64 cs.length), (26, .int .i64 (i : Int))]) (fun (i, A6) => A6 :: logB lb d catB gen size :: [(c, .cells #[.pointer (some ⟨lb, 0, none⟩), .map (some mb), .int .i64 (sumB es : Int)] 154)] :: [(mb, ob)] :: DA :: H) (fun (i, A6) => i ≤ cs.length ∧ Row 51 3 v23 cs.length (chs (madeI i cs)) A6) (fun (i, A6) => cs.length - i) ((0, A60)) (⟨Nat.zero_le _, by simpa [madeI] using hA60⟩) (by repeat (first | exact trivial | refine ⟨rfl, ?_⟩)) (fun _ h => h.subs (by first | ((repeat (first | exact Sub.refl | exact Sub.nil | apply Sub.emp | (apply Sub.cons; focus ((repeat (first | exact Pick.hd | apply Pick.tl)); done)) | (apply Sub.con; focus ((repeat (first | exact Pick.hd | apply Pick.tl)); done)) | (apply Sub.app; focus ((repeat (first | exact Pick.hd | apply Pick.tl)); done)) | apply Sub.drop)); done) | ((repeat (first | rw [List.append_assoc] | rw [List.cons_append] | rw [List.nil_append] | rw [List.append_nil])); (repeat (first | exact Sub.refl | exact Sub.nil | apply Sub.emp | (apply Sub.cons; focus ((repeat (first | exact Pick.hd | apply Pick.tl)); done)) | (apply Sub.con; focus ((repeat (first | exact Pick.hd | apply Pick.tl)); done)) | (apply Sub.app; focus ((repeat (first | exact Pick.hd | apply Pick.tl)); done)) | apply Sub.drop)); done))) ?_
      rintro ⟨i, A6⟩ ⟨hi, hA6⟩
      try dsimp only
      refine Cod.seq ?_
      refine Cod.region ?_
      refine Ops.val (opV_lss rfl rfl (by first | exact decide_eq_true (by omega) | exact decide_eq_false (by omega) | rfl)) rfl ?_
      refine Ops.nil ?_
      refine Ex.next ?_
      refine Cod.seq ?_
      refine Cod.cond rfl (fun hc => ?_) (fun hc => ?_)
      · try simp at hc
        obtain ⟨x, hx⟩ : ∃ x, cs[i]? = some x := ⟨_, List.getElem?_eq_getElem (by omega)⟩
        have hat := chs_at (madeI_get hx)
        refine Cod.skip ?_
        refine Ex.next ?_
        refine Cod.seq ?_
        refine Cod.block ?_
        refine Cod.seq ?_
        refine Cod.region ?_
        refine Ops.val (opV_move rfl) rfl ?_
        refine Ops.val (opV_assign rfl) rfl ?_
        refine Ops.nil ?_
        refine Ex.next ?_
        refine Cod.seq ?_
        refine Cod.region ?_
        refine Ops.val (opV_move rfl) rfl ?_
        refine Ops.val (opV_move rfl) rfl ?_
        refine Ops.val (opV_indexAddr Fx.sl_39 rfl hA6.sl (k := i) rfl (by omega)) rfl ?_
        refine Ops.val (opV_fieldE Fx.fld_51_2 rfl hA6.sl (by omega)) rfl ?_
        refine Ops.val (opV_loadE Fx.scal_4 rfl hA6.sl (.mem (by repeat (first | exact List.Mem.head _ | apply List.Mem.tail))) hat.2.2) rfl ?_
        refine Ops.nil ?_
        refine Ex.next ?_
        refine Cod.cond rfl (fun hd => ?_) (fun hd => ?_)
        · try simp at hd
          refine Cod.region ?_
          refine Ops.val (opV_move rfl) rfl ?_
          refine Ops.val (opV_move rfl) rfl ?_
          refine Ops.val (opV_indexAddr Fx.sl_39 rfl hA6.sl (k := i) rfl (by omega)) rfl ?_
          refine Ops.val (opV_fieldE Fx.fld_51_1 rfl hA6.sl (by omega)) rfl ?_
          refine Ops.stE rfl (opS_storeE Fx.scal_9 Fx.sz1_9 rfl rfl (by first | rfl | assumption | exact Row.one (by assumption) | exact Sl.one (by assumption)) (by repeat (first | exact Pick.hd | apply Pick.tl)) hA6 (by have := hA6.1; omega) ) ?_
          rintro _ ⟨A7, hA7, rfl⟩
          refine Ops.nil ?_
          refine Ex.blockNormal ?_
          refine Ex.next ?_
          refine Cod.region ?_
          refine Ops.val (opV_add64 rfl rfl (by omega)) rfl ?_
          refine Ops.val (opV_move rfl) rfl ?_
          refine Ops.nil ?_
          refine Ex.toN (fun _ _ hs => ⟨(i + 1, A7), ⟨by dsimp only; omega, by rw [← chs_made hx hd]; exact hA7⟩, (by first | omega | (dsimp only; omega) | (simp; omega) | (simp; done)), hs⟩) (by repeat (first | exact trivial | refine ⟨rfl, ?_⟩)) (fun _ h => h.subs (by first | ((repeat (first | exact Sub.refl | exact Sub.nil | apply Sub.emp | (apply Sub.cons; focus ((repeat (first | exact Pick.hd | apply Pick.tl)); done)) | (apply Sub.con; focus ((repeat (first | exact Pick.hd | apply Pick.tl)); done)) | (apply Sub.app; focus ((repeat (first | exact Pick.hd | apply Pick.tl)); done)) | apply Sub.drop)); done) | ((repeat (first | rw [List.append_assoc] | rw [List.cons_append] | rw [List.nil_append] | rw [List.append_nil])); (repeat (first | exact Sub.refl | exact Sub.nil | apply Sub.emp | (apply Sub.cons; focus ((repeat (first | exact Pick.hd | apply Pick.tl)); done)) | (apply Sub.con; focus ((repeat (first | exact Pick.hd | apply Pick.tl)); done)) | (apply Sub.app; focus ((repeat (first | exact Pick.hd | apply Pick.tl)); done)) | apply Sub.drop)); done)))
        · try simp at hd
          refine Cod.skip ?_
          refine Ex.blockNormal ?_
          refine Ex.next ?_
          refine Cod.region ?_
          refine Ops.val (opV_add64 rfl rfl (by omega)) rfl ?_
          refine Ops.val (opV_move rfl) rfl ?_
          refine Ops.nil ?_
          refine Ex.toN (fun _ _ hs => ⟨(i + 1, A6), ⟨by dsimp only; omega, by rw [chs_kept hx hd]; exact hA6⟩, (by first | omega | (dsimp only; omega) | (simp; omega) | (simp; done)), hs⟩) (by repeat (first | exact trivial | refine ⟨rfl, ?_⟩)) (fun _ h => h.subs (by first | ((repeat (first | exact Sub.refl | exact Sub.nil | apply Sub.emp | (apply Sub.cons; focus ((repeat (first | exact Pick.hd | apply Pick.tl)); done)) | (apply Sub.con; focus ((repeat (first | exact Pick.hd | apply Pick.tl)); done)) | (apply Sub.app; focus ((repeat (first | exact Pick.hd | apply Pick.tl)); done)) | apply Sub.drop)); done) | ((repeat (first | rw [List.append_assoc] | rw [List.cons_append] | rw [List.nil_append] | rw [List.append_nil])); (repeat (first | exact Sub.refl | exact Sub.nil | apply Sub.emp | (apply Sub.cons; focus ((repeat (first | exact Pick.hd | apply Pick.tl)); done)) | (apply Sub.con; focus ((repeat (first | exact Pick.hd | apply Pick.tl)); done)) | (apply Sub.app; focus ((repeat (first | exact Pick.hd | apply Pick.tl)); done)) | apply Sub.drop)); done)))
      · try simp at hc
        obtain rfl : i = cs.length := by omega
        rw [madeI_end] at hA6
        refine Cod.exit ?_
        refine Ex.thenExit ?_
        refine Ex.thenExit ?_
        refine Ex.blockHit ?_
        refine Ex.next ?_
        refine Cod.seq ?_
        refine Cod.draw [3, 8] [0, 1, 2, 5, 6, 7, 9, 11] ([(c, .cells #[.pointer (some ⟨lb, 0, none⟩), .map (some mb), .int .i64 (sumB es : Int)] 154)] :: []) [0, 1, 2, 3, 5, 6, 7, 8, 4, 9, 10, 11] M.mixed (by kernel_rfl) ?_
        refine AnyJ.valU rfl rfl rfl (opV_move rfl) rfl (fun _ _ _ h => h.2.elim) ?_
        refine AnyJ.valU rfl rfl rfl (opV_nil rfl) rfl (fun _ _ _ h => h.2.elim) ?_
        refine AnyJ.valU rfl rfl rfl (opV_field Fx.fld_154_1 rfl) rfl (fun _ _ _ h => h.2.elim) ?_
        refine AnyJ.val rfl rfl (opV_load Fx.scal_149 rfl (by repeat (first | exact Cell.one rfl | assumption | apply Cell.tl))) rfl (fun _ _ _ h => h.2.elim) (fun _ h => h.subs (by first | ((repeat (first | exact Sub.refl | exact Sub.nil | apply Sub.emp | (apply Sub.cons; focus ((repeat (first | exact Pick.hd | apply Pick.tl)); done)) | (apply Sub.con; focus ((repeat (first | exact Pick.hd | apply Pick.tl)); done)) | (apply Sub.app; focus ((repeat (first | exact Pick.hd | apply Pick.tl)); done)) | apply Sub.drop)); done) | ((repeat (first | rw [List.append_assoc] | rw [List.cons_append] | rw [List.nil_append] | rw [List.append_nil])); (repeat (first | exact Sub.refl | exact Sub.nil | apply Sub.emp | (apply Sub.cons; focus ((repeat (first | exact Pick.hd | apply Pick.tl)); done)) | (apply Sub.con; focus ((repeat (first | exact Pick.hd | apply Pick.tl)); done)) | (apply Sub.app; focus ((repeat (first | exact Pick.hd | apply Pick.tl)); done)) | apply Sub.drop)); done))) ?_
        refine AnyJ.valU rfl rfl rfl (opV_move rfl) rfl (fun _ _ _ h => h.2.elim) ?_
        refine AnyJ.valU rfl rfl rfl (opV_nil rfl) rfl (fun _ _ _ h => h.2.elim) ?_
        refine AnyJ.valU rfl rfl rfl (opV_field Fx.fld_154_2 rfl) rfl (fun _ _ _ h => h.2.elim) ?_
        refine AnyJ.val rfl rfl (opV_load Fx.scal_3 rfl (by repeat (first | exact Cell.one rfl | assumption | apply Cell.tl))) rfl (fun _ _ _ h => h.2.elim) (fun _ h => h.subs (by first | ((repeat (first | exact Sub.refl | exact Sub.nil | apply Sub.emp | (apply Sub.cons; focus ((repeat (first | exact Pick.hd | apply Pick.tl)); done)) | (apply Sub.con; focus ((repeat (first | exact Pick.hd | apply Pick.tl)); done)) | (apply Sub.app; focus ((repeat (first | exact Pick.hd | apply Pick.tl)); done)) | apply Sub.drop)); done) | ((repeat (first | rw [List.append_assoc] | rw [List.cons_append] | rw [List.nil_append] | rw [List.append_nil])); (repeat (first | exact Sub.refl | exact Sub.nil | apply Sub.emp | (apply Sub.cons; focus ((repeat (first | exact Pick.hd | apply Pick.tl)); done)) | (apply Sub.con; focus ((repeat (first | exact Pick.hd | apply Pick.tl)); done)) | (apply Sub.app; focus ((repeat (first | exact Pick.hd | apply Pick.tl)); done)) | apply Sub.drop)); done))) ?_
        refine AnyJ.call rfl rfl (opC_call Fx.cal_70 rfl (fun w hw => cloneMap hw (A := [(mb, ob)]) (.mem (by repeat (first | exact List.Mem.head _ | apply List.Mem.tail))) (List.Mem.head _) hM)) rfl ?_
        rintro v43 _ ⟨b43, rfl, rfl⟩
        refine ⟨(by first | (intro _ _ h; refine h.subs ?_; (repeat (first | exact Sub.refl | exact Sub.nil | apply Sub.emp | (apply Sub.cons; focus ((repeat (first | exact Pick.hd | apply Pick.tl)); done)) | (apply Sub.con; focus ((repeat (first | exact Pick.hd | apply Pick.tl)); done)) | (apply Sub.app; focus ((repeat (first | exact Pick.hd | apply Pick.tl)); done)) | apply Sub.drop)); done) | exact lead_no (by kernel_rfl)), ?_⟩
        refine AnyJ.valU rfl rfl rfl (opV_build Fx.st_154 rfl (by first | (simp [fillL, vcells, putAt]; rfl) | (simp [fillL, vcells, putAt]; done) | rfl)) rfl (fun _ _ _ h => h.2.elim) ?_
        refine AnyJ.eff rfl rfl (opE_box rfl) rfl ?_
        rintro _ _ ⟨b49, rfl, rfl⟩
        refine ⟨(by first | (intro _ _ h; refine h.subs ?_; (repeat (first | exact Sub.refl | exact Sub.nil | apply Sub.emp | (apply Sub.cons; focus ((repeat (first | exact Pick.hd | apply Pick.tl)); done)) | (apply Sub.con; focus ((repeat (first | exact Pick.hd | apply Pick.tl)); done)) | (apply Sub.app; focus ((repeat (first | exact Pick.hd | apply Pick.tl)); done)) | apply Sub.drop)); done) | exact lead_no (by kernel_rfl)), ?_⟩
        refine AnyJ.valU rfl rfl rfl (opV_assign rfl) rfl (fun _ _ _ h => h.2.elim) ?_
        refine AnyJ.nil ?_
        refine Ex.next ?_
        refine Cod.seq ?_
        refine Cod.seq ?_
        refine Cod.region ?_
        refine Ops.val (opV_move rfl) rfl ?_
        refine Ops.val (opV_len Fx.sl_39 rfl hA6.isSlice) rfl ?_
        refine Ops.val (opV_move rfl) rfl ?_
        refine Ops.nil ?_
        refine Ex.next ?_
        refine Cod.block ?_
        refine Cod.loop (X := Nat × Hp) (fun (i, A1) => [(0, .pointer (some ⟨c, 0, none⟩)), (6, v23), (8, .pointer (some ⟨b49, 0, none⟩)), (50, v23), (51, .int .i64 cs.length), (52, .int .i64 (i : Int))]) (fun (i, A1) => A1 :: A6 :: logB lb d catB gen size :: [(c, .cells #[.pointer (some ⟨lb, 0, none⟩), .map (some mb), .int .i64 (sumB es : Int)] 154)] :: [(mb, ob)] :: DA :: H) (fun (i, A1) => i ≤ cs.length ∧ CatM b49 (.pointer none) (afterE es ((made cs).take i)) A1) (fun (i, A1) => cs.length - i) ((0, (b49, .cells #[.pointer none, .map (some b43), .int .i64 (sumB es : Int)] 154) :: [(b43, ob)])) (⟨Nat.zero_le _, b43, ob, by simpa [afterE] using hM, by simp [afterE]⟩) (by repeat (first | exact trivial | refine ⟨rfl, ?_⟩)) (fun _ h => h.subs (by first | ((repeat (first | exact Sub.refl | exact Sub.nil | apply Sub.emp | (apply Sub.cons; focus ((repeat (first | exact Pick.hd | apply Pick.tl)); done)) | (apply Sub.con; focus ((repeat (first | exact Pick.hd | apply Pick.tl)); done)) | (apply Sub.app; focus ((repeat (first | exact Pick.hd | apply Pick.tl)); done)) | apply Sub.drop)); done) | ((repeat (first | rw [List.append_assoc] | rw [List.cons_append] | rw [List.nil_append] | rw [List.append_nil])); (repeat (first | exact Sub.refl | exact Sub.nil | apply Sub.emp | (apply Sub.cons; focus ((repeat (first | exact Pick.hd | apply Pick.tl)); done)) | (apply Sub.con; focus ((repeat (first | exact Pick.hd | apply Pick.tl)); done)) | (apply Sub.app; focus ((repeat (first | exact Pick.hd | apply Pick.tl)); done)) | apply Sub.drop)); done))) ?_
        rintro ⟨i, A1⟩ ⟨hi, hA1⟩
        try dsimp only
        refine Cod.seq ?_
        refine Cod.region ?_
        refine Ops.val (opV_lss rfl rfl (by first | exact decide_eq_true (by omega) | exact decide_eq_false (by omega) | rfl)) rfl ?_
        refine Ops.nil ?_
        refine Ex.next ?_
        refine Cod.seq ?_
        refine Cod.cond rfl (fun hc2 => ?_) (fun hc2 => ?_)
        · try simp at hc2
          obtain ⟨x, hx⟩ : ∃ x, (made cs)[i]? = some x := ⟨_, List.getElem?_eq_getElem (by omega)⟩
          have hs1 := (afterE_sum hnd ((made cs).take i)).1
          have hs2 := chW_take (made cs) i
          have hs3 := chW_mem (List.mem_of_getElem? hx)
          refine Cod.skip ?_
          refine Ex.next ?_
          refine Cod.seq ?_
          refine Cod.block ?_
          refine Cod.seq ?_
          refine Cod.region ?_
          refine Ops.val (opV_indexAddr Fx.sl_39 rfl hA6.sl (k := i) rfl (by omega)) rfl ?_
          refine Ops.val (opV_loadEA Fx.agg_51 rfl hA6.sl (.mem (by repeat (first | exact List.Mem.head _ | apply List.Mem.tail))) (chs_get hx) rfl (by decide)) rfl ?_
          refine Ops.eff rfl (opE_alloc Fx.zero_51) rfl ?_
          rintro _ _ ⟨b10, rfl, rfl⟩
          refine Ops.st rfl (opS_storeA Fx.agg_51 rfl rfl rfl (by (try simp only [putAt]); simp only [List.mem_cons, List.not_mem_nil, or_false]; (try simp only [forall_eq_or_imp]); (try simp only [forall_eq]); (repeat' apply And.intro) <;> first | rfl | assumption | exact Row.one (by assumption) | exact Sl.one (by assumption)) rfl (by repeat (first | exact Upd.hd | apply Upd.tl)) rfl) ?_
          refine Ops.nil ?_
          refine Ex.next ?_
          refine Cod.region ?_
          refine Ops.val (opV_move rfl) rfl ?_
          refine Ops.val (opV_loadW Fx.agg_51 rfl (.mem (by repeat (first | exact List.Mem.head _ | apply List.Mem.tail))) (List.Mem.head _) rfl) rfl ?_
          refine Ops.call rfl (opC_call Fx.cal_71 rfl (fun w hw => apply_spec (by omega) (by omega) (afterE_nodup hnd _) hw (by repeat (first | exact Pick.hd | apply Pick.tl)) hA1)) rfl ?_
          rintro v58 _ ⟨rfl, A2, hA2, rfl⟩
          refine Ops.nil ?_
          refine Ex.blockNormal ?_
          refine Ex.next ?_
          refine Cod.region ?_
          refine Ops.val (opV_add64 rfl rfl (by omega)) rfl ?_
          refine Ops.val (opV_move rfl) rfl ?_
          refine Ops.nil ?_
          refine Ex.toN (fun _ _ hs => ⟨(i + 1, A2), ⟨by dsimp only; omega, by rw [afterE_succ hx]; exact hA2⟩, (by first | omega | (dsimp only; omega) | (simp; omega) | (simp; done)), hs⟩) (by repeat (first | exact trivial | refine ⟨rfl, ?_⟩)) (fun _ h => h.subs (by first | ((repeat (first | exact Sub.refl | exact Sub.nil | apply Sub.emp | (apply Sub.cons; focus ((repeat (first | exact Pick.hd | apply Pick.tl)); done)) | (apply Sub.con; focus ((repeat (first | exact Pick.hd | apply Pick.tl)); done)) | (apply Sub.app; focus ((repeat (first | exact Pick.hd | apply Pick.tl)); done)) | apply Sub.drop)); done) | ((repeat (first | rw [List.append_assoc] | rw [List.cons_append] | rw [List.nil_append] | rw [List.append_nil])); (repeat (first | exact Sub.refl | exact Sub.nil | apply Sub.emp | (apply Sub.cons; focus ((repeat (first | exact Pick.hd | apply Pick.tl)); done)) | (apply Sub.con; focus ((repeat (first | exact Pick.hd | apply Pick.tl)); done)) | (apply Sub.app; focus ((repeat (first | exact Pick.hd | apply Pick.tl)); done)) | apply Sub.drop)); done)))
        · try simp at hc2
          obtain rfl : i = cs.length := by omega
          rw [List.take_of_length_le (by omega), afterE_made] at hA1
          obtain ⟨mb1, ob1, hM1, rfl⟩ := hA1
          refine Cod.heap (fun _ h => Owns.split (h.pick (A := (b49, _) :: [(mb1, ob1)]) (by repeat (first | exact Pick.hd | apply Pick.tl)))) ?_
          refine Cod.exit ?_
          refine Ex.thenExit ?_
          refine Ex.thenExit ?_
          refine Ex.blockHit ?_
          refine Ex.next ?_
          refine Cod.seq ?_
          refine Cod.seq ?_
          refine Cod.region ?_
          refine Ops.val (opV_move rfl) rfl ?_
          refine Ops.val (opV_nil rfl) rfl ?_
          refine Ops.val (opV_field Fx.fld_154_1 rfl) rfl ?_
          refine Ops.val (opV_load Fx.scal_149 rfl (by repeat (first | exact Cell.one rfl | assumption | apply Cell.tl))) rfl ?_
          refine Ops.val (opV_mlen (κ := Str) Fx.map_149 rfl (.mem (by repeat (first | exact List.Mem.head _ | apply List.Mem.tail))) (List.Mem.head _) hM1) rfl ?_
          refine Ops.val (opV_gtr rfl rfl rfl) rfl ?_
          refine Ops.val (opV_move rfl) rfl ?_
          refine Ops.cases 66 rfl (fun hlen => ?_) (fun hlen => ?_)
          · skip
            refine Ops.skipg rfl rfl ?_
            refine Ops.skipg rfl rfl ?_
            refine Ops.skipg rfl rfl ?_
            refine Ops.skipg rfl rfl ?_
            refine Ops.skipg rfl rfl ?_
            refine Ops.val (opV_pickT rfl rfl) rfl ?_
            refine Ops.nil ?_
            refine Ex.next ?_
            refine Cod.condT rfl ?_
            refine Cod.seq ?_
            refine Cod.region ?_
            refine Ops.val (opV_assign rfl) rfl ?_
            refine Ops.nil ?_
            refine Ex.next ?_
            refine Cod.ret ?_
            refine Ex.thenRet ?_
            exact Ex.ret1 rfl rfl (fun _ h => h.subs (by first | ((repeat (first | exact Sub.refl | exact Sub.nil | apply Sub.emp | (apply Sub.cons; focus ((repeat (first | exact Pick.hd | apply Pick.tl)); done)) | (apply Sub.con; focus ((repeat (first | exact Pick.hd | apply Pick.tl)); done)) | (apply Sub.app; focus ((repeat (first | exact Pick.hd | apply Pick.tl)); done)) | apply Sub.drop)); done) | ((repeat (first | rw [List.append_assoc] | rw [List.cons_append] | rw [List.nil_append] | rw [List.append_nil])); (repeat (first | exact Sub.refl | exact Sub.nil | apply Sub.emp | (apply Sub.cons; focus ((repeat (first | exact Pick.hd | apply Pick.tl)); done)) | (apply Sub.con; focus ((repeat (first | exact Pick.hd | apply Pick.tl)); done)) | (apply Sub.app; focus ((repeat (first | exact Pick.hd | apply Pick.tl)); done)) | apply Sub.drop)); done))) (commit_same (full_code h0 hnil (.inl (by have := of_decide_eq_true hlen; simp at this; omega))) hC0 hD)
          · skip
            have hlen' : (afterE es cs).length ≤ 10000 := by have := of_decide_eq_false hlen; simp at this; omega
            refine Ops.valg rfl (opV_move rfl) rfl ?_
            refine Ops.valg rfl (opV_nil rfl) rfl ?_
            refine Ops.valg rfl (opV_field Fx.fld_154_2 rfl) rfl ?_
            refine Ops.valg rfl (opV_load Fx.scal_3 rfl (by repeat (first | exact Cell.one rfl | assumption | apply Cell.tl))) rfl ?_
            refine Ops.valg rfl (opV_gtr rfl rfl rfl) rfl ?_
            refine Ops.val (opV_pickF rfl rfl) rfl ?_
            refine Ops.nil ?_
            refine Ex.next ?_
            refine Cod.cond rfl (fun hbig => ?_) (fun hbig => ?_)
            · try simp at hbig
              refine Cod.seq ?_
              refine Cod.region ?_
              refine Ops.val (opV_assign rfl) rfl ?_
              refine Ops.nil ?_
              refine Ex.next ?_
              refine Cod.ret ?_
              refine Ex.thenRet ?_
              exact Ex.ret1 rfl rfl (fun _ h => h.subs (by first | ((repeat (first | exact Sub.refl | exact Sub.nil | apply Sub.emp | (apply Sub.cons; focus ((repeat (first | exact Pick.hd | apply Pick.tl)); done)) | (apply Sub.con; focus ((repeat (first | exact Pick.hd | apply Pick.tl)); done)) | (apply Sub.app; focus ((repeat (first | exact Pick.hd | apply Pick.tl)); done)) | apply Sub.drop)); done) | ((repeat (first | rw [List.append_assoc] | rw [List.cons_append] | rw [List.nil_append] | rw [List.append_nil])); (repeat (first | exact Sub.refl | exact Sub.nil | apply Sub.emp | (apply Sub.cons; focus ((repeat (first | exact Pick.hd | apply Pick.tl)); done)) | (apply Sub.con; focus ((repeat (first | exact Pick.hd | apply Pick.tl)); done)) | (apply Sub.app; focus ((repeat (first | exact Pick.hd | apply Pick.tl)); done)) | apply Sub.drop)); done))) (commit_same (full_code h0 hnil (.inr (by omega))) hC0 hD)
            · try simp at hbig
              have hbig' : sumB (afterE es cs) ≤ 500000 := by omega
              have hdone := done_code (es := es) h0 hnil (by omega)
              have hrec : (encF (made cs)).length ≤ 1048576 := by
                  rw [encF_len, hmC]
                  have h1 : ¬ (10000 < cs.length ∨ 500000 < sumC cs) := fun q => by unfold checkF at h0; rw [if_pos q] at h0; omega
                  omega
              have hwl := wrapped_length (encF (made cs))
              refine Cod.skip ?_
              refine Ex.next ?_
              refine Cod.seq ?_
              refine Cod.seq ?_
              refine Cod.draw [3] [0, 1, 2, 4, 7] ([(c, .cells #[.pointer (some ⟨lb, 0, none⟩), .map (some mb), .int .i64 (sumB es : Int)] 154)] :: []) [0, 1, 2, 3, 4, 5, 6, 7] M.mixed (by kernel_rfl) ?_
              refine AnyJ.valU rfl rfl rfl (opV_move rfl) rfl (fun _ _ _ h => h.2.elim) ?_
              refine AnyJ.valU rfl rfl rfl (opV_nil rfl) rfl (fun _ _ _ h => h.2.elim) ?_
              refine AnyJ.valU rfl rfl rfl (opV_field Fx.fld_154_0 rfl) rfl (fun _ _ _ h => h.2.elim) ?_
              refine AnyJ.val rfl rfl (opV_load Fx.scal_136 rfl (by repeat (first | exact Cell.one rfl | assumption | apply Cell.tl))) rfl (fun _ _ _ h => h.2.elim) (fun _ h => h.subs (by first | ((repeat (first | exact Sub.refl | exact Sub.nil | apply Sub.emp | (apply Sub.cons; focus ((repeat (first | exact Pick.hd | apply Pick.tl)); done)) | (apply Sub.con; focus ((repeat (first | exact Pick.hd | apply Pick.tl)); done)) | (apply Sub.app; focus ((repeat (first | exact Pick.hd | apply Pick.tl)); done)) | apply Sub.drop)); done) | ((repeat (first | rw [List.append_assoc] | rw [List.cons_append] | rw [List.nil_append] | rw [List.append_nil])); (repeat (first | exact Sub.refl | exact Sub.nil | apply Sub.emp | (apply Sub.cons; focus ((repeat (first | exact Pick.hd | apply Pick.tl)); done)) | (apply Sub.con; focus ((repeat (first | exact Pick.hd | apply Pick.tl)); done)) | (apply Sub.app; focus ((repeat (first | exact Pick.hd | apply Pick.tl)); done)) | apply Sub.drop)); done))) ?_
              refine AnyJ.valU rfl rfl rfl (opV_move rfl) rfl (fun _ _ _ h => h.2.elim) ?_
              refine AnyJ.call rfl rfl (opC_call Fx.cal_72 rfl (fun w hw => encode_spec (cs := made cs) hml.symm (by omega) hw (A := A6) (.mem (by repeat (first | exact List.Mem.head _ | apply List.Mem.tail))) hA6.sl)) rfl ?_
              rintro v78 _ ⟨AE, hAE, rfl⟩
              refine ⟨(by first | (intro _ _ h; refine h.subs ?_; (repeat (first | exact Sub.refl | exact Sub.nil | apply Sub.emp | (apply Sub.cons; focus ((repeat (first | exact Pick.hd | apply Pick.tl)); done)) | (apply Sub.con; focus ((repeat (first | exact Pick.hd | apply Pick.tl)); done)) | (apply Sub.app; focus ((repeat (first | exact Pick.hd | apply Pick.tl)); done)) | apply Sub.drop)); done) | exact lead_no (by kernel_rfl)), ?_⟩
              refine AnyJ.call rfl rfl (opC_call Fx.cal_63 rfl (fun w hw => logAppend_ok (base := catB) (gen := gen) (size := size) hG (by omega) hg hs (by omega) (by omega) hr hrec (by omega) rfl hw (A := DA) (by repeat (first | exact Pick.hd | apply Pick.tl)) (by repeat (first | exact Pick.hd | apply Pick.tl)) hD (B := AE) (.mem (by repeat (first | exact List.Mem.head _ | apply List.Mem.tail))) hAE.sl)) rfl ?_
              rintro v79 _ ⟨rfl, DA1, hDA1, rfl⟩
              refine ⟨(by first | (intro _ _ h; refine h.subs ?_; (repeat (first | exact Sub.refl | exact Sub.nil | apply Sub.emp | (apply Sub.cons; focus ((repeat (first | exact Pick.hd | apply Pick.tl)); done)) | (apply Sub.con; focus ((repeat (first | exact Pick.hd | apply Pick.tl)); done)) | (apply Sub.app; focus ((repeat (first | exact Pick.hd | apply Pick.tl)); done)) | apply Sub.drop)); done) | exact lead_no (by kernel_rfl)), ?_⟩
              refine AnyJ.valU rfl rfl rfl (opV_assign rfl) rfl (fun _ _ _ h => h.2.elim) ?_
              refine AnyJ.nil ?_
              refine Ex.next ?_
              refine Cod.seq ?_
              refine Cod.region ?_
              refine Ops.val (opV_move rfl) rfl ?_
              refine Ops.val (opV_neq rfl rfl (by first | exact decide_eq_true (by omega) | exact decide_eq_false (by omega) | rfl)) rfl ?_
              refine Ops.nil ?_
              refine Ex.next ?_
              refine Cod.condF rfl ?_
              refine Cod.skip ?_
              refine Ex.next ?_
              refine Cod.seq ?_
              refine Cod.region ?_
              refine Ops.val (opV_move rfl) rfl ?_
              refine Ops.val (opV_nil rfl) rfl ?_
              refine Ops.val (opV_field Fx.fld_154_0 rfl) rfl ?_
              refine Ops.val (opV_load Fx.scal_136 rfl (by repeat (first | exact Cell.one rfl | assumption | apply Cell.tl))) rfl ?_
              refine Ops.call rfl (opC_call Fx.cal_73 rfl (fun w hw => logSync (base := catB) (gen := gen) (append_ok hpo) (by rw [append_used]; omega) (by rw [append_pend]; omega) hw (A := DA1) (by repeat (first | exact Pick.hd | apply Pick.tl)) (.mem (by repeat (first | exact List.Mem.head _ | apply List.Mem.tail))) hDA1)) rfl ?_
              rintro v87 _ ⟨rfl, DA2, hDA2, _, rfl⟩
              refine Ops.nil ?_
              refine Ex.next ?_
              refine Cod.seq ?_
              refine Cod.draw [5, 9] [0, 1, 2, 3, 4, 6, 7, 8, 10, 11, 13, 14] ([(c, .cells #[.pointer (some ⟨lb, 0, none⟩), .map (some mb), .int .i64 (sumB es : Int)] 154)] :: [(b49, .cells #[.pointer none, .map (some mb1), .int .i64 (sumB (afterE es cs) : Int)] 154)] :: []) [0, 1, 2, 3, 4, 5, 6, 7, 8, 9, 10, 11, 12, 13, 14, 15] M.mixed (by kernel_rfl) ?_
              refine AnyJ.valU rfl rfl rfl (opV_move rfl) rfl (fun _ _ _ h => h.2.elim) ?_
              refine AnyJ.valU rfl rfl rfl (opV_move rfl) rfl (fun _ _ _ h => h.2.elim) ?_
              refine AnyJ.valU rfl rfl rfl (opV_move rfl) rfl (fun _ _ _ h => h.2.elim) ?_
              refine AnyJ.valU rfl rfl rfl (opV_nil rfl) rfl (fun _ _ _ h => h.2.elim) ?_
              refine AnyJ.valU rfl rfl rfl (opV_field Fx.fld_154_1 rfl) rfl (fun _ _ _ h => h.2.elim) ?_
              refine AnyJ.val rfl rfl (opV_load Fx.scal_149 rfl (by repeat (first | exact Cell.one rfl | assumption | apply Cell.tl))) rfl (fun _ _ _ h => h.2.elim) (fun _ h => h.subs (by first | ((repeat (first | exact Sub.refl | exact Sub.nil | apply Sub.emp | (apply Sub.cons; focus ((repeat (first | exact Pick.hd | apply Pick.tl)); done)) | (apply Sub.con; focus ((repeat (first | exact Pick.hd | apply Pick.tl)); done)) | (apply Sub.app; focus ((repeat (first | exact Pick.hd | apply Pick.tl)); done)) | apply Sub.drop)); done) | ((repeat (first | rw [List.append_assoc] | rw [List.cons_append] | rw [List.nil_append] | rw [List.append_nil])); (repeat (first | exact Sub.refl | exact Sub.nil | apply Sub.emp | (apply Sub.cons; focus ((repeat (first | exact Pick.hd | apply Pick.tl)); done)) | (apply Sub.con; focus ((repeat (first | exact Pick.hd | apply Pick.tl)); done)) | (apply Sub.app; focus ((repeat (first | exact Pick.hd | apply Pick.tl)); done)) | apply Sub.drop)); done))) ?_
              refine AnyJ.valU rfl rfl rfl (opV_move rfl) rfl (fun _ _ _ h => h.2.elim) ?_
              refine AnyJ.valU rfl rfl rfl (opV_nil rfl) rfl (fun _ _ _ h => h.2.elim) ?_
              refine AnyJ.valU rfl rfl rfl (opV_field Fx.fld_154_2 rfl) rfl (fun _ _ _ h => h.2.elim) ?_
              refine AnyJ.val rfl rfl (opV_load Fx.scal_3 rfl (by repeat (first | exact Cell.one rfl | assumption | apply Cell.tl))) rfl (fun _ _ _ h => h.2.elim) (fun _ h => h.subs (by first | ((repeat (first | exact Sub.refl | exact Sub.nil | apply Sub.emp | (apply Sub.cons; focus ((repeat (first | exact Pick.hd | apply Pick.tl)); done)) | (apply Sub.con; focus ((repeat (first | exact Pick.hd | apply Pick.tl)); done)) | (apply Sub.app; focus ((repeat (first | exact Pick.hd | apply Pick.tl)); done)) | apply Sub.drop)); done) | ((repeat (first | rw [List.append_assoc] | rw [List.cons_append] | rw [List.nil_append] | rw [List.append_nil])); (repeat (first | exact Sub.refl | exact Sub.nil | apply Sub.emp | (apply Sub.cons; focus ((repeat (first | exact Pick.hd | apply Pick.tl)); done)) | (apply Sub.con; focus ((repeat (first | exact Pick.hd | apply Pick.tl)); done)) | (apply Sub.app; focus ((repeat (first | exact Pick.hd | apply Pick.tl)); done)) | apply Sub.drop)); done))) ?_
              refine AnyJ.valU rfl rfl rfl (opV_nil rfl) rfl (fun _ _ _ h => h.2.elim) ?_
              refine AnyJ.valU rfl rfl rfl (opV_field Fx.fld_154_1 rfl) rfl (fun _ _ _ h => h.2.elim) ?_
              refine AnyJ.st rfl rfl (opS_store Fx.scal_149 Fx.sz1_149 rfl rfl (by first | rfl | assumption | exact Row.one (by assumption) | exact Sl.one (by assumption)) rfl (by repeat (first | exact Upd.hd | apply Upd.tl)) (by repeat (first | exact LSet.hd | apply LSet.tl))) (by first | (intro _ _ h; refine h.subs ?_; (repeat (first | exact Sub.refl | exact Sub.nil | apply Sub.emp | (apply Sub.cons; focus ((repeat (first | exact Pick.hd | apply Pick.tl)); done)) | (apply Sub.con; focus ((repeat (first | exact Pick.hd | apply Pick.tl)); done)) | (apply Sub.app; focus ((repeat (first | exact Pick.hd | apply Pick.tl)); done)) | apply Sub.drop)); done) | exact lead_no (by kernel_rfl)) ?_
              refine AnyJ.valU rfl rfl rfl (opV_nil rfl) rfl (fun _ _ _ h => h.2.elim) ?_
              refine AnyJ.valU rfl rfl rfl (opV_field Fx.fld_154_2 rfl) rfl (fun _ _ _ h => h.2.elim) ?_
              refine AnyJ.st rfl rfl (opS_store Fx.scal_3 Fx.sz1_3 rfl rfl (by first | rfl | assumption | exact Row.one (by assumption) | exact Sl.one (by assumption)) rfl (by repeat (first | exact Upd.hd | apply Upd.tl)) (by repeat (first | exact LSet.hd | apply LSet.tl))) (by first | (intro _ _ h; refine h.subs ?_; (repeat (first | exact Sub.refl | exact Sub.nil | apply Sub.emp | (apply Sub.cons; focus ((repeat (first | exact Pick.hd | apply Pick.tl)); done)) | (apply Sub.con; focus ((repeat (first | exact Pick.hd | apply Pick.tl)); done)) | (apply Sub.app; focus ((repeat (first | exact Pick.hd | apply Pick.tl)); done)) | apply Sub.drop)); done) | exact lead_no (by kernel_rfl)) ?_
              refine AnyJ.nil ?_
              refine Ex.next ?_
              refine Cod.seq ?_
              refine Cod.region ?_
              refine Ops.val (opV_assign rfl) rfl ?_
              refine Ops.nil ?_
              refine Ex.next ?_
              refine Cod.ret ?_
              exact Ex.ret1 rfl rfl (fun _ h => h.subs (by first | ((repeat (first | exact Sub.refl | exact Sub.nil | apply Sub.emp | (apply Sub.cons; focus ((repeat (first | exact Pick.hd | apply Pick.tl)); done)) | (apply Sub.con; focus ((repeat (first | exact Pick.hd | apply Pick.tl)); done)) | (apply Sub.app; focus ((repeat (first | exact Pick.hd | apply Pick.tl)); done)) | apply Sub.drop)); done) | ((repeat (first | rw [List.append_assoc] | rw [List.cons_append] | rw [List.nil_append] | rw [List.append_nil])); (repeat (first | exact Sub.refl | exact Sub.nil | apply Sub.emp | (apply Sub.cons; focus ((repeat (first | exact Pick.hd | apply Pick.tl)); done)) | (apply Sub.con; focus ((repeat (first | exact Pick.hd | apply Pick.tl)); done)) | (apply Sub.app; focus ((repeat (first | exact Pick.hd | apply Pick.tl)); done)) | apply Sub.drop)); done))) (commit_done hdone ⟨mb1, ob1, hM1, rfl⟩ hDA2)
end
end Go.Proofs.YteejmoldhbfdnaaGreatDoor.Cat3
