/- Package bodies: room, Put. -/
import Derived.Test.YteejmoldhbfdnaaGreatDoorBod2
namespace Go.Proofs.YteejmoldhbfdnaaGreatDoor.Bod3
open Go.W Go.RowKit Lib1 Oct OctR Seal Disk Disk2 Wal Num Wal2 Wal3 Bod Bod2
namespace Fx
theorem cal_132 : callable Tryz.prog 132 = true := by kernel_rfl
theorem cal_133 : callable Tryz.prog 133 = true := by kernel_rfl
theorem cal_76 : callable Tryz.prog 76 = true := by kernel_rfl
theorem fld_129_0 : fieldOff Tryz.prog 129 0 = some 0 := by kernel_rfl
theorem fld_129_2 : fieldOff Tryz.prog 129 2 = some 2 := by kernel_rfl
theorem fld_129_4 : fieldOff Tryz.prog 129 4 = some 4 := by kernel_rfl
theorem fld_138_0 : fieldOff Tryz.prog 138 0 = some 0 := by kernel_rfl
theorem fld_228_3 : fieldOff Tryz.prog 228 3 = some 3 := by kernel_rfl
theorem map_127 : mapInfo Tryz.prog 127 = some (.int .i64, (.pointer none)) := by kernel_rfl
theorem ptr_133 : ptrT Tryz.prog 133 = true := by kernel_rfl
theorem scal_127 : scalarB Tryz.prog 127 = true := by kernel_rfl
theorem scal_136 : scalarB Tryz.prog 136 = true := by kernel_rfl
theorem scal_24 : scalarB Tryz.prog 24 = true := by kernel_rfl
theorem scal_3 : scalarB Tryz.prog 3 = true := by kernel_rfl
theorem st_138 : stInfo Tryz.prog 138 = some (#[(.pointer none), (.slice none 0 0), (.bool false)], #[(0, 1), (1, 1), (2, 1)]) := by kernel_rfl
theorem sz1_3 : (Tryz.prog.info? 3).map (·.size) = some 1 := by kernel_rfl

end Fx
def segBase (n : Nat) : Str := [98] ++ Lib.itoa (n : Int)
theorem itoa_len {n : Nat} (h : n < 10 ^ 18) : (Lib.itoa (n : Int)).length ≤ 18 := by rw [itoa_nat]; exact dec_len 18 n (by omega) h
theorem okBase_seg {n : Nat} (h : n < 10 ^ 18) : okBase (segBase n) := by
  have := itoa_len h
  refine ⟨by simp [segBase], by simp [segBase]; omega, fun c hc => ?_⟩
  rcases List.mem_append.1 hc with hc | hc
  · simp at hc; subst hc; exact ⟨.inl (by decide), by decide⟩
  · rw [itoa_nat] at hc
    have := dec_digits n c hc
    exact ⟨.inr (.inl this), by omega⟩
/-- A store, with the pointer of the segment that is written to. -/
def StoreX (s d : Nat) (S : SK) (v : Value) (A : Hp) : Prop :=
  ∃ mb ob kb sm os ks BA GA, MapO (κ := Int) kb ob ∧ BodM kb S.bodies BA ∧ MapO (κ := Int) ks os ∧ SegM d ks S.segs GA ∧ lkp S.current ks = some v ∧
    A = (s, .cells #[.pointer (some ⟨d, 0, none⟩), .map (some mb), .map (some sm), .int .i64 S.last, .int .i64 S.current] 129) :: (mb, ob) :: (sm, os) :: (BA ++ GA)
section
variable {e : Ctx} {w : World} {As F G : List Hp} {A DA : Hp} {s d c : Nat} {S : SK} {D : DK} {sg : SegK}
theorem open_new {p : Nat} {base data : Str} {u : Value} {Bs : List Hp} (h : OpenPost p 0 0 base data [] D F u Bs) :
    ((D.used : Int) + 8 ≤ D.room ∧ ∃ l v8 vs R8 A8 A', u = .tuple #[.pointer (some ⟨l, 0, none⟩), v8, .int .i64 0] ∧ Row 29 1 v8 1 vs R8 ∧ BL A8 vs [[]] ∧ DiskA p (D.append (fileF base 1) (wrapped [])).sync A' ∧ Bs = A' :: logB l p base 1 8 :: R8 :: A8 :: F) ∨
    (D.room < (D.used : Int) + 8 ∧ u = .tuple #[.pointer none, .slice none 0 0, .int .i64 6] ∧ ∃ A', DiskA p D A' ∧ Bs = A' :: F) := by
  rcases h with ⟨h, _⟩ | ⟨_, h⟩ | ⟨_, h⟩
  · exact absurd rfl h
  · exact .inl h
  · exact .inr h
/-- The store behind a new segment. -/
def _root_.Go.Proofs.YteejmoldhbfdnaaGreatDoor.Bod.SK.newSeg (S : SK) (c : Nat) : SK := { S with current := ((c + 1 : Nat) : Int), segs := ins ((c + 1 : Nat) : Int) ⟨segBase (c + 1), 1, 8, [], false⟩ S.segs }
def newD (D : DK) (c : Nat) : DK := (D.append (fileF (segBase (c + 1)) 1) (wrapped [])).sync
/-- What a call needs of the disk. -/
structure DOK (D : DK) : Prop where
  nl : ∀ x, (lkp x D.files).isSome = true → x.length ≤ 1000
  fl : D.files.length ≤ 1000000000
  us : D.used ≤ 900000000
  pn : D.pend.length < 100000000
  po : PendOK D
  rm : D.room ≤ 9223372036854775807 ∧ -9223372036854775808 ≤ D.room
def RoomPost (s d c : Nat) (S : SK) (D : DK) (G : List Hp) (u : Value) (Bs : List Hp) : Prop :=
  ((D.used : Int) + 8 ≤ D.room ∧ ∃ v A' DA', u = .tuple #[v, .int .i64 0] ∧ StoreX s d (S.newSeg c) v A' ∧ DiskA d (newD D c) DA' ∧ Bs = A' :: DA' :: G) ∨
  (D.room < (D.used : Int) + 8 ∧ u = .tuple #[.pointer none, .int .i64 6] ∧ ∃ A' DA', StoreA s d S A' ∧ DiskA d D DA' ∧ Bs = A' :: DA' :: G)
theorem room_none (hG : Glob e) (hE : Kit.HasErr e) (hK : DOK D) (hc : S.current = (c : Int)) (hcl : c ≤ 1000000000) (hnone : lkp ((c + 1 : Nat) : Int) S.segs = none) (hnew : ∀ g', lkp (fileF (segBase (c + 1)) g') D.files = none) (hcur : lkp S.current S.segs = none)
    (hw : Owns e w As) (hp : Pick As A F) (hq : Pick F DA G) (hS : StoreA s d S A) (hD : DiskA d D DA) :
    Calls Tryz.prog 62 #[.pointer (some ⟨s, 0, none⟩)] w (Ret e (RoomPost s d c S D G)) := by
  obtain ⟨mb, ob, kb, sm, os, ks, BA, GA, hM, hBo, hMs, hSe, rfl⟩ := hS
  have hkc := (MapH.none_iff hSe).2 hcur
  have hc1 : S.current + 1 = ((c + 1 : Nat) : Int) := by omega
  have hSe' := hSe
  refine enter Tryz.func62 rfl Tryz.ntmps62 (Owns.store (hw.pick2 hp hq)) rfl ?_
  refine Cod.seq ?_
  refine Cod.region ?_
  refine Ops.val (opV_assign rfl) rfl ?_
  refine Ops.val (opV_assign rfl) rfl ?_
  refine Ops.nil ?_
  refine Ex.next ?_
  refine Cod.seq ?_
  refine Cod.seq ?_
  refine Cod.draw0 [3, 7, 8] [0, 1, 2, 4, 5, 6, 9] [0, 1, 2, 3, 4, 5, 6, 7, 8, 9] M.mixed (by kernel_rfl) ?_
  refine AnyJ.valU rfl rfl rfl (opV_move rfl) rfl (fun _ _ _ h => h.2.elim) ?_
  refine AnyJ.valU rfl rfl rfl (opV_nil rfl) rfl (fun _ _ _ h => h.2.elim) ?_
  refine AnyJ.valU rfl rfl rfl (opV_field Fx.fld_129_2 rfl) rfl (fun _ _ _ h => h.2.elim) ?_
  refine AnyJ.val rfl rfl (opV_load Fx.scal_127 rfl (by repeat (first | exact Cell.one rfl | assumption | apply Cell.tl))) rfl (fun _ _ _ h => h.2.elim) (fun _ h => h) ?_
  refine AnyJ.valU rfl rfl rfl (opV_move rfl) rfl (fun _ _ _ h => h.2.elim) ?_
  refine AnyJ.valU rfl rfl rfl (opV_nil rfl) rfl (fun _ _ _ h => h.2.elim) ?_
  refine AnyJ.valU rfl rfl rfl (opV_field Fx.fld_129_4 rfl) rfl (fun _ _ _ h => h.2.elim) ?_
  refine AnyJ.val rfl rfl (opV_load Fx.scal_3 rfl (by repeat (first | exact Cell.one rfl | assumption | apply Cell.tl))) rfl (fun _ _ _ h => h.2.elim) (fun _ h => h) ?_
  refine AnyJ.val rfl rfl (opV_lookup (κ := Int) Fx.map_127 rfl rfl (.mem (by repeat (first | exact List.Mem.head _ | apply List.Mem.tail))) (List.Mem.head _) hMs) rfl (fun _ _ _ h => h.2.elim) (fun _ h => h) ?_
  rw [hkc]
  refine AnyJ.valU rfl rfl rfl (opV_assign rfl) rfl (fun _ _ _ h => h.2.elim) ?_
  refine AnyJ.nil ?_
  refine Ex.next ?_
  refine Cod.seq ?_
  refine Cod.region ?_
  refine Ops.val (opV_move rfl) rfl ?_
  refine Ops.val (opV_ptrnnil Fx.ptr_133 rfl rfl rfl) rfl ?_
  refine Ops.val (opV_move rfl) rfl ?_
  refine Ops.skipg rfl rfl ?_
  refine Ops.skipg rfl rfl ?_
  refine Ops.skipg rfl rfl ?_
  refine Ops.skipg rfl rfl ?_
  refine Ops.skipg rfl rfl ?_
  refine Ops.skipg rfl rfl ?_
  refine Ops.val (opV_pickF rfl rfl) rfl ?_
  refine Ops.nil ?_
  refine Ex.next ?_
  refine Cod.condF rfl ?_
  refine Cod.skip ?_
  refine Ex.next ?_
  refine Cod.seq ?_
  refine Cod.draw [3, 7] [0, 1, 2, 4, 5, 6, 8, 10, 12, 13, 14, 15, 16, 17, 18] ([(s, .cells #[.pointer (some ⟨d, 0, none⟩), .map (some mb), .map (some sm), .int .i64 S.last, .int .i64 S.current] 129)] :: []) [0, 1, 2, 3, 4, 5, 6, 7, 8, 9, 10, 11, 12, 13, 14, 15, 16, 17, 18] M.mixed (by kernel_rfl) ?_
  refine AnyJ.valU rfl rfl rfl (opV_move rfl) rfl (fun _ _ _ h => h.2.elim) ?_
  refine AnyJ.valU rfl rfl rfl (opV_nil rfl) rfl (fun _ _ _ h => h.2.elim) ?_
  refine AnyJ.valU rfl rfl rfl (opV_field Fx.fld_129_0 rfl) rfl (fun _ _ _ h => h.2.elim) ?_
  refine AnyJ.val rfl rfl (opV_load Fx.scal_24 rfl (by repeat (first | exact Cell.one rfl | assumption | apply Cell.tl))) rfl (fun _ _ _ h => h.2.elim) (fun _ h => h.subs (by first | ((repeat (first | exact Sub.refl | exact Sub.nil | apply Sub.emp | (apply Sub.cons; focus ((repeat (first | exact Pick.hd | apply Pick.tl)); done)) | (apply Sub.con; focus ((repeat (first | exact Pick.hd | apply Pick.tl)); done)) | (apply Sub.app; focus ((repeat (first | exact Pick.hd | apply Pick.tl)); done)) | apply Sub.drop)); done) | ((repeat (first | rw [List.append_assoc] | rw [List.cons_append] | rw [List.nil_append] | rw [List.append_nil])); (repeat (first | exact Sub.refl | exact Sub.nil | apply Sub.emp | (apply Sub.cons; focus ((repeat (first | exact Pick.hd | apply Pick.tl)); done)) | (apply Sub.con; focus ((repeat (first | exact Pick.hd | apply Pick.tl)); done)) | (apply Sub.app; focus ((repeat (first | exact Pick.hd | apply Pick.tl)); done)) | apply Sub.drop)); done))) ?_
  refine AnyJ.valU rfl rfl rfl (opV_move rfl) rfl (fun _ _ _ h => h.2.elim) ?_
  refine AnyJ.valU rfl rfl rfl (opV_nil rfl) rfl (fun _ _ _ h => h.2.elim) ?_
  refine AnyJ.valU rfl rfl rfl (opV_field Fx.fld_129_4 rfl) rfl (fun _ _ _ h => h.2.elim) ?_
  refine AnyJ.val rfl rfl (opV_load Fx.scal_3 rfl (by repeat (first | exact Cell.one rfl | assumption | apply Cell.tl))) rfl (fun _ _ _ h => h.2.elim) (fun _ h => h.subs (by first | ((repeat (first | exact Sub.refl | exact Sub.nil | apply Sub.emp | (apply Sub.cons; focus ((repeat (first | exact Pick.hd | apply Pick.tl)); done)) | (apply Sub.con; focus ((repeat (first | exact Pick.hd | apply Pick.tl)); done)) | (apply Sub.app; focus ((repeat (first | exact Pick.hd | apply Pick.tl)); done)) | apply Sub.drop)); done) | ((repeat (first | rw [List.append_assoc] | rw [List.cons_append] | rw [List.nil_append] | rw [List.append_nil])); (repeat (first | exact Sub.refl | exact Sub.nil | apply Sub.emp | (apply Sub.cons; focus ((repeat (first | exact Pick.hd | apply Pick.tl)); done)) | (apply Sub.con; focus ((repeat (first | exact Pick.hd | apply Pick.tl)); done)) | (apply Sub.app; focus ((repeat (first | exact Pick.hd | apply Pick.tl)); done)) | apply Sub.drop)); done))) ?_
  refine AnyJ.valU rfl rfl rfl (opV_add64 rfl rfl (by omega)) rfl (fun _ _ _ h => h.2.elim) ?_
  refine AnyJ.call rfl rfl (opC_call Fx.cal_133 rfl (fun w hw => Kit.itoa (n := S.current + 1) hG.pow (by omega) (by omega) hw)) rfl ?_
  rintro v38 _ ⟨rfl, rfl⟩
  refine ⟨(by first | (intro _ _ h; refine h.subs ?_; (repeat (first | exact Sub.refl | exact Sub.nil | apply Sub.emp | (apply Sub.cons; focus ((repeat (first | exact Pick.hd | apply Pick.tl)); done)) | (apply Sub.con; focus ((repeat (first | exact Pick.hd | apply Pick.tl)); done)) | (apply Sub.app; focus ((repeat (first | exact Pick.hd | apply Pick.tl)); done)) | apply Sub.drop)); done) | exact lead_no (by kernel_rfl)), ?_⟩
  rw [hc1]
  refine AnyJ.valU rfl rfl rfl (opV_sadd rfl rfl (by have := itoa_len (n := c + 1) (by omega); simp only [List.length_cons, List.length_nil]; omega)) rfl (fun _ _ _ h => h.2.elim) ?_
  refine AnyJ.call rfl rfl (opC_call Fx.cal_76 rfl (fun w hw => open_spec (g := 0) (kk := 0) (data := []) (safe := []) (recs := []) (base := segBase (c + 1)) hG hE (okBase_seg (by omega)) hK.nl hK.fl hK.us hK.pn hK.po hK.rm (fun g' h1 h2 h3 => by rw [hnew g'] at h3; cases h3) (fun h => absurd rfl h) hw (A := DA) (by repeat (first | exact Pick.hd | apply Pick.tl)) hD)) rfl ?_
  rintro v40 _ hO
  refine ⟨(by intro _ w h; rcases open_new hO with ⟨_, _, _, _, _, _, _, _, _, _, _, rfl⟩ | ⟨_, _, _, _, rfl⟩ <;> exact h.subs (by first | ((repeat (first | exact Sub.refl | exact Sub.nil | apply Sub.emp | (apply Sub.cons; focus ((repeat (first | exact Pick.hd | apply Pick.tl)); done)) | (apply Sub.con; focus ((repeat (first | exact Pick.hd | apply Pick.tl)); done)) | (apply Sub.app; focus ((repeat (first | exact Pick.hd | apply Pick.tl)); done)) | apply Sub.drop)); done) | ((repeat (first | rw [List.append_assoc] | rw [List.cons_append] | rw [List.nil_append] | rw [List.append_nil])); (repeat (first | exact Sub.refl | exact Sub.nil | apply Sub.emp | (apply Sub.cons; focus ((repeat (first | exact Pick.hd | apply Pick.tl)); done)) | (apply Sub.con; focus ((repeat (first | exact Pick.hd | apply Pick.tl)); done)) | (apply Sub.app; focus ((repeat (first | exact Pick.hd | apply Pick.tl)); done)) | apply Sub.drop)); done))), ?_⟩
  rcases open_new hO with ⟨hfit, l, v8, vs, R8, A8, DA', rfl, hR8, hB8, hDA', rfl⟩ | ⟨hnf, rfl, DA', hDA', rfl⟩
  · skip
    refine AnyJ.valU rfl rfl rfl (opV_move rfl) rfl (fun _ _ _ h => h.2.elim) ?_
    refine AnyJ.valU rfl rfl rfl (opV_extract rfl rfl) rfl (fun _ _ _ h => h.2.elim) ?_
    refine AnyJ.valU rfl rfl rfl (opV_extract rfl rfl) rfl (fun _ _ _ h => h.2.elim) ?_
    refine AnyJ.valU rfl rfl rfl (opV_extract rfl rfl) rfl (fun _ _ _ h => h.2.elim) ?_
    refine AnyJ.valU rfl rfl rfl (opV_assign rfl) rfl (fun _ _ _ h => h.2.elim) ?_
    refine AnyJ.valU rfl rfl rfl (opV_assign rfl) rfl (fun _ _ _ h => h.2.elim) ?_
    refine AnyJ.valU rfl rfl rfl (opV_assign rfl) rfl (fun _ _ _ h => h.2.elim) ?_
    refine AnyJ.nil ?_
    refine Ex.next ?_
    refine Cod.seq ?_
    refine Cod.seq ?_
    refine Cod.region ?_
    refine Ops.val (opV_move rfl) rfl ?_
    refine Ops.val (opV_neq rfl rfl (by first | exact decide_eq_true (by omega) | exact decide_eq_false (by omega) | rfl)) rfl ?_
    refine Ops.nil ?_
    refine Ex.next ?_
    refine Cod.condF rfl ?_
    refine Cod.skip ?_
    refine Ex.next ?_
    refine Cod.seq ?_
    refine Cod.region ?_
    refine Ops.val (opV_move rfl) rfl ?_
    refine Ops.val (opV_nil rfl) rfl ?_
    refine Ops.val (opV_field Fx.fld_129_4 rfl) rfl ?_
    refine Ops.val (opV_load Fx.scal_3 rfl (by repeat (first | exact Cell.one rfl | assumption | apply Cell.tl))) rfl ?_
    refine Ops.val (opV_add64 rfl rfl (by omega)) rfl ?_
    refine Ops.val (opV_nil rfl) rfl ?_
    refine Ops.val (opV_field Fx.fld_129_4 rfl) rfl ?_
    refine Ops.st rfl (opS_store Fx.scal_3 Fx.sz1_3 rfl rfl (by first | rfl | assumption | exact Row.one (by assumption) | exact Sl.one (by assumption)) rfl (by repeat (first | exact Upd.hd | apply Upd.tl)) (by repeat (first | exact LSet.hd | apply LSet.tl))) ?_
    refine Ops.nil ?_
    refine Ex.next ?_
    rw [hc1]
    refine Cod.seq ?_
    refine Cod.draw [3, 7] [0, 1, 2, 4, 5, 6, 8, 9] ([(s, .cells #[.pointer (some ⟨d, 0, none⟩), .map (some mb), .map (some sm), .int .i64 S.last, .int .i64 ((c + 1 : Nat) : Int)] 129)] :: []) [0, 1, 2, 3, 4, 5, 6, 7, 8, 9, 10, 11] M.mixed (by kernel_rfl) ?_
    refine AnyJ.valU rfl rfl rfl (opV_move rfl) rfl (fun _ _ _ h => h.2.elim) ?_
    refine AnyJ.valU rfl rfl rfl (opV_nil rfl) rfl (fun _ _ _ h => h.2.elim) ?_
    refine AnyJ.valU rfl rfl rfl (opV_field Fx.fld_129_2 rfl) rfl (fun _ _ _ h => h.2.elim) ?_
    refine AnyJ.val rfl rfl (opV_load Fx.scal_127 rfl (by repeat (first | exact Cell.one rfl | assumption | apply Cell.tl))) rfl (fun _ _ _ h => h.2.elim) (fun _ h => h.subs (by first | ((repeat (first | exact Sub.refl | exact Sub.nil | apply Sub.emp | (apply Sub.cons; focus ((repeat (first | exact Pick.hd | apply Pick.tl)); done)) | (apply Sub.con; focus ((repeat (first | exact Pick.hd | apply Pick.tl)); done)) | (apply Sub.app; focus ((repeat (first | exact Pick.hd | apply Pick.tl)); done)) | apply Sub.drop)); done) | ((repeat (first | rw [List.append_assoc] | rw [List.cons_append] | rw [List.nil_append] | rw [List.append_nil])); (repeat (first | exact Sub.refl | exact Sub.nil | apply Sub.emp | (apply Sub.cons; focus ((repeat (first | exact Pick.hd | apply Pick.tl)); done)) | (apply Sub.con; focus ((repeat (first | exact Pick.hd | apply Pick.tl)); done)) | (apply Sub.app; focus ((repeat (first | exact Pick.hd | apply Pick.tl)); done)) | apply Sub.drop)); done))) ?_
    refine AnyJ.valU rfl rfl rfl (opV_move rfl) rfl (fun _ _ _ h => h.2.elim) ?_
    refine AnyJ.valU rfl rfl rfl (opV_nil rfl) rfl (fun _ _ _ h => h.2.elim) ?_
    refine AnyJ.valU rfl rfl rfl (opV_field Fx.fld_129_4 rfl) rfl (fun _ _ _ h => h.2.elim) ?_
    refine AnyJ.val rfl rfl (opV_load Fx.scal_3 rfl (by repeat (first | exact Cell.one rfl | assumption | apply Cell.tl))) rfl (fun _ _ _ h => h.2.elim) (fun _ h => h.subs (by first | ((repeat (first | exact Sub.refl | exact Sub.nil | apply Sub.emp | (apply Sub.cons; focus ((repeat (first | exact Pick.hd | apply Pick.tl)); done)) | (apply Sub.con; focus ((repeat (first | exact Pick.hd | apply Pick.tl)); done)) | (apply Sub.app; focus ((repeat (first | exact Pick.hd | apply Pick.tl)); done)) | apply Sub.drop)); done) | ((repeat (first | rw [List.append_assoc] | rw [List.cons_append] | rw [List.nil_append] | rw [List.append_nil])); (repeat (first | exact Sub.refl | exact Sub.nil | apply Sub.emp | (apply Sub.cons; focus ((repeat (first | exact Pick.hd | apply Pick.tl)); done)) | (apply Sub.con; focus ((repeat (first | exact Pick.hd | apply Pick.tl)); done)) | (apply Sub.app; focus ((repeat (first | exact Pick.hd | apply Pick.tl)); done)) | apply Sub.drop)); done))) ?_
    refine AnyJ.valU rfl rfl rfl (opV_move rfl) rfl (fun _ _ _ h => h.2.elim) ?_
    refine AnyJ.valU rfl rfl rfl (opV_build Fx.st_138 rfl (by first | (simp [fillL, vcells, putAt]; rfl) | (simp [fillL, vcells, putAt]; done) | rfl)) rfl (fun _ _ _ h => h.2.elim) ?_
    refine AnyJ.eff rfl rfl (opE_box rfl) rfl ?_
    rintro _ _ ⟨b64, rfl, rfl⟩
    refine ⟨(by first | (intro _ _ h; refine h.subs ?_; (repeat (first | exact Sub.refl | exact Sub.nil | apply Sub.emp | (apply Sub.cons; focus ((repeat (first | exact Pick.hd | apply Pick.tl)); done)) | (apply Sub.con; focus ((repeat (first | exact Pick.hd | apply Pick.tl)); done)) | (apply Sub.app; focus ((repeat (first | exact Pick.hd | apply Pick.tl)); done)) | apply Sub.drop)); done) | exact lead_no (by kernel_rfl)), ?_⟩
    refine AnyJ.stE rfl rfl (opS_mapUpdate (κ := Int) Fx.map_127 rfl rfl rfl (by repeat (first | exact Pick.hd | apply Pick.tl)) hMs ) ?_
    rintro _ ⟨os', hMs', rfl⟩
    refine ⟨(by first | (intro _ _ h; refine h.subs ?_; (repeat (first | exact Sub.refl | exact Sub.nil | apply Sub.emp | (apply Sub.cons; focus ((repeat (first | exact Pick.hd | apply Pick.tl)); done)) | (apply Sub.con; focus ((repeat (first | exact Pick.hd | apply Pick.tl)); done)) | (apply Sub.app; focus ((repeat (first | exact Pick.hd | apply Pick.tl)); done)) | apply Sub.drop)); done) | exact lead_no (by kernel_rfl)), ?_⟩
    refine AnyJ.nil ?_
    refine Ex.next ?_
    refine Cod.seq ?_
    refine Cod.draw [3, 7, 8] [0, 1, 2, 4, 5, 6, 9, 10] ([(s, .cells #[.pointer (some ⟨d, 0, none⟩), .map (some mb), .map (some sm), .int .i64 S.last, .int .i64 ((c + 1 : Nat) : Int)] 129)] :: [(sm, os')] :: []) [0, 1, 2, 3, 4, 5, 6, 7, 8, 9, 10] M.mixed (by kernel_rfl) ?_
    refine AnyJ.valU rfl rfl rfl (opV_move rfl) rfl (fun _ _ _ h => h.2.elim) ?_
    refine AnyJ.valU rfl rfl rfl (opV_nil rfl) rfl (fun _ _ _ h => h.2.elim) ?_
    refine AnyJ.valU rfl rfl rfl (opV_field Fx.fld_129_2 rfl) rfl (fun _ _ _ h => h.2.elim) ?_
    refine AnyJ.val rfl rfl (opV_load Fx.scal_127 rfl (by repeat (first | exact Cell.one rfl | assumption | apply Cell.tl))) rfl (fun _ _ _ h => h.2.elim) (fun _ h => h.subs (by first | ((repeat (first | exact Sub.refl | exact Sub.nil | apply Sub.emp | (apply Sub.cons; focus ((repeat (first | exact Pick.hd | apply Pick.tl)); done)) | (apply Sub.con; focus ((repeat (first | exact Pick.hd | apply Pick.tl)); done)) | (apply Sub.app; focus ((repeat (first | exact Pick.hd | apply Pick.tl)); done)) | apply Sub.drop)); done) | ((repeat (first | rw [List.append_assoc] | rw [List.cons_append] | rw [List.nil_append] | rw [List.append_nil])); (repeat (first | exact Sub.refl | exact Sub.nil | apply Sub.emp | (apply Sub.cons; focus ((repeat (first | exact Pick.hd | apply Pick.tl)); done)) | (apply Sub.con; focus ((repeat (first | exact Pick.hd | apply Pick.tl)); done)) | (apply Sub.app; focus ((repeat (first | exact Pick.hd | apply Pick.tl)); done)) | apply Sub.drop)); done))) ?_
    refine AnyJ.valU rfl rfl rfl (opV_move rfl) rfl (fun _ _ _ h => h.2.elim) ?_
    refine AnyJ.valU rfl rfl rfl (opV_nil rfl) rfl (fun _ _ _ h => h.2.elim) ?_
    refine AnyJ.valU rfl rfl rfl (opV_field Fx.fld_129_4 rfl) rfl (fun _ _ _ h => h.2.elim) ?_
    refine AnyJ.val rfl rfl (opV_load Fx.scal_3 rfl (by repeat (first | exact Cell.one rfl | assumption | apply Cell.tl))) rfl (fun _ _ _ h => h.2.elim) (fun _ h => h.subs (by first | ((repeat (first | exact Sub.refl | exact Sub.nil | apply Sub.emp | (apply Sub.cons; focus ((repeat (first | exact Pick.hd | apply Pick.tl)); done)) | (apply Sub.con; focus ((repeat (first | exact Pick.hd | apply Pick.tl)); done)) | (apply Sub.app; focus ((repeat (first | exact Pick.hd | apply Pick.tl)); done)) | apply Sub.drop)); done) | ((repeat (first | rw [List.append_assoc] | rw [List.cons_append] | rw [List.nil_append] | rw [List.append_nil])); (repeat (first | exact Sub.refl | exact Sub.nil | apply Sub.emp | (apply Sub.cons; focus ((repeat (first | exact Pick.hd | apply Pick.tl)); done)) | (apply Sub.con; focus ((repeat (first | exact Pick.hd | apply Pick.tl)); done)) | (apply Sub.app; focus ((repeat (first | exact Pick.hd | apply Pick.tl)); done)) | apply Sub.drop)); done))) ?_
    refine AnyJ.val rfl rfl (opV_lookup (κ := Int) Fx.map_127 rfl rfl (.mem (by repeat (first | exact List.Mem.head _ | apply List.Mem.tail))) (List.Mem.head _) hMs') rfl (fun _ _ _ h => h.2.elim) (fun _ h => h.subs (by first | ((repeat (first | exact Sub.refl | exact Sub.nil | apply Sub.emp | (apply Sub.cons; focus ((repeat (first | exact Pick.hd | apply Pick.tl)); done)) | (apply Sub.con; focus ((repeat (first | exact Pick.hd | apply Pick.tl)); done)) | (apply Sub.app; focus ((repeat (first | exact Pick.hd | apply Pick.tl)); done)) | apply Sub.drop)); done) | ((repeat (first | rw [List.append_assoc] | rw [List.cons_append] | rw [List.nil_append] | rw [List.append_nil])); (repeat (first | exact Sub.refl | exact Sub.nil | apply Sub.emp | (apply Sub.cons; focus ((repeat (first | exact Pick.hd | apply Pick.tl)); done)) | (apply Sub.con; focus ((repeat (first | exact Pick.hd | apply Pick.tl)); done)) | (apply Sub.app; focus ((repeat (first | exact Pick.hd | apply Pick.tl)); done)) | apply Sub.drop)); done))) ?_
    rw [lkp_ins, if_pos rfl]
    have hadd := MapH.add hSe' (k := ((c + 1 : Nat) : Int)) (v := .pointer (some ⟨b64, 0, none⟩)) (a := ⟨segBase (c + 1), 1, 8, [], false⟩) ((MapH.none_iff hSe').2 hnone) (P := SegP d) (B := segB b64 l (.slice none 0 0) false ++ (logB l d (segBase (c + 1)) 1 8 ++ [])) ⟨b64, l, .slice none 0 0, [], rfl, Row.nil _ _, rfl⟩
    refine AnyJ.valU rfl rfl rfl (opV_assign rfl) rfl (fun _ _ _ h => h.2.elim) ?_
    refine AnyJ.valU rfl rfl rfl (opV_assign rfl) rfl (fun _ _ _ h => h.2.elim) ?_
    refine AnyJ.nil ?_
    refine Ex.next ?_
    refine Cod.ret ?_
    exact Ex.ret2 rfl rfl rfl (fun _ h => h.subs (by first | ((repeat (first | exact Sub.refl | exact Sub.nil | apply Sub.emp | (apply Sub.cons; focus ((repeat (first | exact Pick.hd | apply Pick.tl)); done)) | (apply Sub.con; focus ((repeat (first | exact Pick.hd | apply Pick.tl)); done)) | (apply Sub.app; focus ((repeat (first | exact Pick.hd | apply Pick.tl)); done)) | apply Sub.drop)); done) | ((repeat (first | rw [List.append_assoc] | rw [List.cons_append] | rw [List.nil_append] | rw [List.append_nil])); (repeat (first | exact Sub.refl | exact Sub.nil | apply Sub.emp | (apply Sub.cons; focus ((repeat (first | exact Pick.hd | apply Pick.tl)); done)) | (apply Sub.con; focus ((repeat (first | exact Pick.hd | apply Pick.tl)); done)) | (apply Sub.app; focus ((repeat (first | exact Pick.hd | apply Pick.tl)); done)) | apply Sub.drop)); done))) (.inl ⟨hfit, _, _, DA', rfl, ⟨mb, ob, kb, sm, os', _, BA, _, hM, hBo, hMs', hadd, by simp only [SK.newSeg]; rw [lkp_ins, if_pos rfl]; rfl, rfl⟩, hDA', rfl⟩)
  · skip
    refine AnyJ.valU rfl rfl rfl (opV_move rfl) rfl (fun _ _ _ h => h.2.elim) ?_
    refine AnyJ.valU rfl rfl rfl (opV_extract rfl rfl) rfl (fun _ _ _ h => h.2.elim) ?_
    refine AnyJ.valU rfl rfl rfl (opV_extract rfl rfl) rfl (fun _ _ _ h => h.2.elim) ?_
    refine AnyJ.valU rfl rfl rfl (opV_extract rfl rfl) rfl (fun _ _ _ h => h.2.elim) ?_
    refine AnyJ.valU rfl rfl rfl (opV_assign rfl) rfl (fun _ _ _ h => h.2.elim) ?_
    refine AnyJ.valU rfl rfl rfl (opV_assign rfl) rfl (fun _ _ _ h => h.2.elim) ?_
    refine AnyJ.valU rfl rfl rfl (opV_assign rfl) rfl (fun _ _ _ h => h.2.elim) ?_
    refine AnyJ.nil ?_
    refine Ex.next ?_
    refine Cod.seq ?_
    refine Cod.seq ?_
    refine Cod.region ?_
    refine Ops.val (opV_move rfl) rfl ?_
    refine Ops.val (opV_neq rfl rfl (by first | exact decide_eq_true (by omega) | exact decide_eq_false (by omega) | rfl)) rfl ?_
    refine Ops.nil ?_
    refine Ex.next ?_
    refine Cod.condT rfl ?_
    refine Cod.seq ?_
    refine Cod.region ?_
    refine Ops.val (opV_move rfl) rfl ?_
    refine Ops.val (opV_assign rfl) rfl ?_
    refine Ops.val (opV_assign rfl) rfl ?_
    refine Ops.nil ?_
    refine Ex.next ?_
    refine Cod.ret ?_
    refine Ex.thenRet ?_
    exact Ex.ret2 rfl rfl rfl (fun _ h => h.subs (by first | ((repeat (first | exact Sub.refl | exact Sub.nil | apply Sub.emp | (apply Sub.cons; focus ((repeat (first | exact Pick.hd | apply Pick.tl)); done)) | (apply Sub.con; focus ((repeat (first | exact Pick.hd | apply Pick.tl)); done)) | (apply Sub.app; focus ((repeat (first | exact Pick.hd | apply Pick.tl)); done)) | apply Sub.drop)); done) | ((repeat (first | rw [List.append_assoc] | rw [List.cons_append] | rw [List.nil_append] | rw [List.append_nil])); (repeat (first | exact Sub.refl | exact Sub.nil | apply Sub.emp | (apply Sub.cons; focus ((repeat (first | exact Pick.hd | apply Pick.tl)); done)) | (apply Sub.con; focus ((repeat (first | exact Pick.hd | apply Pick.tl)); done)) | (apply Sub.app; focus ((repeat (first | exact Pick.hd | apply Pick.tl)); done)) | apply Sub.drop)); done))) (.inr ⟨hnf, rfl, _, DA', ⟨mb, ob, kb, sm, os, ks, BA, _, hM, hBo, hMs, hSe', rfl⟩, hDA', rfl⟩)
theorem logSize' {l size gen : Nat} {base : Str} {LX : Hp} (hw : Owns e w As) (hm : (l, .cells #[.pointer (some ⟨d, 0, none⟩), W.S base, .int .i64 (gen : Int), .int .i64 (size : Int)] 228) ∈ LX) (hq : Has e As LX) : Calls Tryz.prog 132 #[.pointer (some ⟨l, 0, none⟩)] w (Ret e fun u Bs => u = .int .i64 (size : Int) ∧ Bs = As) := by
  refine enter Tryz.func132 rfl Tryz.ntmps132 hw rfl ?_
  refine Cod.seq ?_
  refine Cod.region ?_
  refine Ops.val (opV_assign rfl) rfl ?_
  refine Ops.nil ?_
  refine Ex.next ?_
  refine Cod.seq ?_
  refine Cod.region ?_
  refine Ops.val (opV_move rfl) rfl ?_
  refine Ops.val (opV_nil rfl) rfl ?_
  refine Ops.val (opV_field Fx.fld_228_3 rfl) rfl ?_
  refine Ops.val (opV_load Fx.scal_3 rfl (cellOf hq hm rfl)) rfl ?_
  refine Ops.val (opV_assign rfl) rfl ?_
  refine Ops.nil ?_
  refine Ex.next ?_
  refine Cod.ret ?_
  exact Ex.ret1 rfl rfl (fun _ h => h.subs (by first | ((repeat (first | exact Sub.refl | exact Sub.nil | apply Sub.emp | (apply Sub.cons; focus ((repeat (first | exact Pick.hd | apply Pick.tl)); done)) | (apply Sub.con; focus ((repeat (first | exact Pick.hd | apply Pick.tl)); done)) | (apply Sub.app; focus ((repeat (first | exact Pick.hd | apply Pick.tl)); done)) | apply Sub.drop)); done) | ((repeat (first | rw [List.append_assoc] | rw [List.cons_append] | rw [List.nil_append] | rw [List.append_nil])); (repeat (first | exact Sub.refl | exact Sub.nil | apply Sub.emp | (apply Sub.cons; focus ((repeat (first | exact Pick.hd | apply Pick.tl)); done)) | (apply Sub.con; focus ((repeat (first | exact Pick.hd | apply Pick.tl)); done)) | (apply Sub.app; focus ((repeat (first | exact Pick.hd | apply Pick.tl)); done)) | apply Sub.drop)); done))) ⟨rfl, rfl⟩
theorem room_big (hG : Glob e) (hE : Kit.HasErr e) (hK : DOK D) (hc : S.current = (c : Int)) (hcl : c ≤ 1000000000) (hnone : lkp ((c + 1 : Nat) : Int) S.segs = none) (hnew : ∀ g', lkp (fileF (segBase (c + 1)) g') D.files = none) (hcur : lkp S.current S.segs = some sg) (hbig : 65536 ≤ sg.size)
    (hw : Owns e w As) (hp : Pick As A F) (hq : Pick F DA G) (hS : StoreA s d S A) (hD : DiskA d D DA) :
    Calls Tryz.prog 62 #[.pointer (some ⟨s, 0, none⟩)] w (Ret e (RoomPost s d c S D G)) := by
  obtain ⟨mb, ob, kb, sm, os, ks, BA, GA, hM, hBo, hMs, hSe, rfl⟩ := hS
  obtain ⟨kv, hkc⟩ : ∃ v, lkp S.current ks = some v := by
    cases hx : lkp S.current ks with
    | none => rw [(MapH.none_iff hSe).1 hx] at hcur; cases hcur
    | some v => exact ⟨v, rfl⟩
  obtain ⟨sb, lb, iv, g, RI, GA', rfl, hsk, hRI, hsown, hsput, _, hin⟩ := SegM.get (e := e) hSe hkc
  rw [hcur] at hsk
  cases hsk
  have hc1 : S.current + 1 = ((c + 1 : Nat) : Int) := by omega
  have hSe' := hSe
  refine enter Tryz.func62 rfl Tryz.ntmps62 (Owns.store (hw.pick2 hp hq)) rfl ?_
  refine Cod.seq ?_
  refine Cod.region ?_
  refine Ops.val (opV_assign rfl) rfl ?_
  refine Ops.val (opV_assign rfl) rfl ?_
  refine Ops.nil ?_
  refine Ex.next ?_
  refine Cod.seq ?_
  refine Cod.seq ?_
  refine Cod.draw0 [3, 7, 8] [0, 1, 2, 4, 5, 6, 9] [0, 1, 2, 3, 4, 5, 6, 7, 8, 9] M.mixed (by kernel_rfl) ?_
  refine AnyJ.valU rfl rfl rfl (opV_move rfl) rfl (fun _ _ _ h => h.2.elim) ?_
  refine AnyJ.valU rfl rfl rfl (opV_nil rfl) rfl (fun _ _ _ h => h.2.elim) ?_
  refine AnyJ.valU rfl rfl rfl (opV_field Fx.fld_129_2 rfl) rfl (fun _ _ _ h => h.2.elim) ?_
  refine AnyJ.val rfl rfl (opV_load Fx.scal_127 rfl (by repeat (first | exact Cell.one rfl | assumption | apply Cell.tl))) rfl (fun _ _ _ h => h.2.elim) (fun _ h => h) ?_
  refine AnyJ.valU rfl rfl rfl (opV_move rfl) rfl (fun _ _ _ h => h.2.elim) ?_
  refine AnyJ.valU rfl rfl rfl (opV_nil rfl) rfl (fun _ _ _ h => h.2.elim) ?_
  refine AnyJ.valU rfl rfl rfl (opV_field Fx.fld_129_4 rfl) rfl (fun _ _ _ h => h.2.elim) ?_
  refine AnyJ.val rfl rfl (opV_load Fx.scal_3 rfl (by repeat (first | exact Cell.one rfl | assumption | apply Cell.tl))) rfl (fun _ _ _ h => h.2.elim) (fun _ h => h) ?_
  refine AnyJ.val rfl rfl (opV_lookup (κ := Int) Fx.map_127 rfl rfl (.mem (by repeat (first | exact List.Mem.head _ | apply List.Mem.tail))) (List.Mem.head _) hMs) rfl (fun _ _ _ h => h.2.elim) (fun _ h => h) ?_
  rw [hkc]
  refine AnyJ.valU rfl rfl rfl (opV_assign rfl) rfl (fun _ _ _ h => h.2.elim) ?_
  refine AnyJ.nil ?_
  refine Ex.next ?_
  refine Cod.seq ?_
  refine Cod.region ?_
  refine Ops.val (opV_move rfl) rfl ?_
  refine Ops.val (opV_ptrnnil Fx.ptr_133 rfl rfl rfl) rfl ?_
  refine Ops.val (opV_move rfl) rfl ?_
  refine Ops.valg rfl (opV_move rfl) rfl ?_
  refine Ops.valg rfl (opV_nil rfl) rfl ?_
  refine Ops.valg rfl (opV_field Fx.fld_138_0 rfl) rfl ?_
  refine Ops.valg rfl (opV_load Fx.scal_136 rfl (cellOf (A := GA) (i := 0) (.mem (by repeat (first | exact List.Mem.head _ | apply List.Mem.tail))) (hin _ (List.mem_append.2 (.inl (.head _)))) rfl)) rfl ?_
  refine Ops.call rfl (opC_call Fx.cal_132 rfl (fun w hw => logSize' (base := sg.base) (gen := sg.gen) (size := sg.size) (d := d) (LX := GA) hw (hin _ (List.mem_append.2 (.inr (List.mem_append.2 (.inl (.head _)))))) (.mem (by repeat (first | exact List.Mem.head _ | apply List.Mem.tail))))) rfl ?_
  rintro v24 _ ⟨rfl, rfl⟩
  refine Ops.valg rfl (opV_lss rfl rfl (by first | exact decide_eq_true (by omega) | exact decide_eq_false (by omega) | rfl)) rfl ?_
  refine Ops.val (opV_pickT rfl rfl) rfl ?_
  refine Ops.nil ?_
  refine Ex.next ?_
  refine Cod.condF rfl ?_
  refine Cod.skip ?_
  refine Ex.next ?_
  refine Cod.seq ?_
  refine Cod.draw [3, 7] [0, 1, 2, 4, 5, 6, 8, 10, 12, 13, 14, 15, 16, 17, 18] ([(s, .cells #[.pointer (some ⟨d, 0, none⟩), .map (some mb), .map (some sm), .int .i64 S.last, .int .i64 S.current] 129)] :: []) [0, 1, 2, 3, 4, 5, 6, 7, 8, 9, 10, 11, 12, 13, 14, 15, 16, 17, 18] M.mixed (by kernel_rfl) ?_
  refine AnyJ.valU rfl rfl rfl (opV_move rfl) rfl (fun _ _ _ h => h.2.elim) ?_
  refine AnyJ.valU rfl rfl rfl (opV_nil rfl) rfl (fun _ _ _ h => h.2.elim) ?_
  refine AnyJ.valU rfl rfl rfl (opV_field Fx.fld_129_0 rfl) rfl (fun _ _ _ h => h.2.elim) ?_
  refine AnyJ.val rfl rfl (opV_load Fx.scal_24 rfl (by repeat (first | exact Cell.one rfl | assumption | apply Cell.tl))) rfl (fun _ _ _ h => h.2.elim) (fun _ h => h.subs (by first | ((repeat (first | exact Sub.refl | exact Sub.nil | apply Sub.emp | (apply Sub.cons; focus ((repeat (first | exact Pick.hd | apply Pick.tl)); done)) | (apply Sub.con; focus ((repeat (first | exact Pick.hd | apply Pick.tl)); done)) | (apply Sub.app; focus ((repeat (first | exact Pick.hd | apply Pick.tl)); done)) | apply Sub.drop)); done) | ((repeat (first | rw [List.append_assoc] | rw [List.cons_append] | rw [List.nil_append] | rw [List.append_nil])); (repeat (first | exact Sub.refl | exact Sub.nil | apply Sub.emp | (apply Sub.cons; focus ((repeat (first | exact Pick.hd | apply Pick.tl)); done)) | (apply Sub.con; focus ((repeat (first | exact Pick.hd | apply Pick.tl)); done)) | (apply Sub.app; focus ((repeat (first | exact Pick.hd | apply Pick.tl)); done)) | apply Sub.drop)); done))) ?_
  refine AnyJ.valU rfl rfl rfl (opV_move rfl) rfl (fun _ _ _ h => h.2.elim) ?_
  refine AnyJ.valU rfl rfl rfl (opV_nil rfl) rfl (fun _ _ _ h => h.2.elim) ?_
  refine AnyJ.valU rfl rfl rfl (opV_field Fx.fld_129_4 rfl) rfl (fun _ _ _ h => h.2.elim) ?_
  refine AnyJ.val rfl rfl (opV_load Fx.scal_3 rfl (by repeat (first | exact Cell.one rfl | assumption | apply Cell.tl))) rfl (fun _ _ _ h => h.2.elim) (fun _ h => h.subs (by first | ((repeat (first | exact Sub.refl | exact Sub.nil | apply Sub.emp | (apply Sub.cons; focus ((repeat (first | exact Pick.hd | apply Pick.tl)); done)) | (apply Sub.con; focus ((repeat (first | exact Pick.hd | apply Pick.tl)); done)) | (apply Sub.app; focus ((repeat (first | exact Pick.hd | apply Pick.tl)); done)) | apply Sub.drop)); done) | ((repeat (first | rw [List.append_assoc] | rw [List.cons_append] | rw [List.nil_append] | rw [List.append_nil])); (repeat (first | exact Sub.refl | exact Sub.nil | apply Sub.emp | (apply Sub.cons; focus ((repeat (first | exact Pick.hd | apply Pick.tl)); done)) | (apply Sub.con; focus ((repeat (first | exact Pick.hd | apply Pick.tl)); done)) | (apply Sub.app; focus ((repeat (first | exact Pick.hd | apply Pick.tl)); done)) | apply Sub.drop)); done))) ?_
  refine AnyJ.valU rfl rfl rfl (opV_add64 rfl rfl (by omega)) rfl (fun _ _ _ h => h.2.elim) ?_
  refine AnyJ.call rfl rfl (opC_call Fx.cal_133 rfl (fun w hw => Kit.itoa (n := S.current + 1) hG.pow (by omega) (by omega) hw)) rfl ?_
  rintro v38 _ ⟨rfl, rfl⟩
  refine ⟨(by first | (intro _ _ h; refine h.subs ?_; (repeat (first | exact Sub.refl | exact Sub.nil | apply Sub.emp | (apply Sub.cons; focus ((repeat (first | exact Pick.hd | apply Pick.tl)); done)) | (apply Sub.con; focus ((repeat (first | exact Pick.hd | apply Pick.tl)); done)) | (apply Sub.app; focus ((repeat (first | exact Pick.hd | apply Pick.tl)); done)) | apply Sub.drop)); done) | exact lead_no (by kernel_rfl)), ?_⟩
  rw [hc1]
  refine AnyJ.valU rfl rfl rfl (opV_sadd rfl rfl (by have := itoa_len (n := c + 1) (by omega); simp only [List.length_cons, List.length_nil]; omega)) rfl (fun _ _ _ h => h.2.elim) ?_
  refine AnyJ.call rfl rfl (opC_call Fx.cal_76 rfl (fun w hw => open_spec (g := 0) (kk := 0) (data := []) (safe := []) (recs := []) (base := segBase (c + 1)) hG hE (okBase_seg (by omega)) hK.nl hK.fl hK.us hK.pn hK.po hK.rm (fun g' h1 h2 h3 => by rw [hnew g'] at h3; cases h3) (fun h => absurd rfl h) hw (A := DA) (by repeat (first | exact Pick.hd | apply Pick.tl)) hD)) rfl ?_
  rintro v40 _ hO
  refine ⟨(by intro _ w h; rcases open_new hO with ⟨_, _, _, _, _, _, _, _, _, _, _, rfl⟩ | ⟨_, _, _, _, rfl⟩ <;> exact h.subs (by first | ((repeat (first | exact Sub.refl | exact Sub.nil | apply Sub.emp | (apply Sub.cons; focus ((repeat (first | exact Pick.hd | apply Pick.tl)); done)) | (apply Sub.con; focus ((repeat (first | exact Pick.hd | apply Pick.tl)); done)) | (apply Sub.app; focus ((repeat (first | exact Pick.hd | apply Pick.tl)); done)) | apply Sub.drop)); done) | ((repeat (first | rw [List.append_assoc] | rw [List.cons_append] | rw [List.nil_append] | rw [List.append_nil])); (repeat (first | exact Sub.refl | exact Sub.nil | apply Sub.emp | (apply Sub.cons; focus ((repeat (first | exact Pick.hd | apply Pick.tl)); done)) | (apply Sub.con; focus ((repeat (first | exact Pick.hd | apply Pick.tl)); done)) | (apply Sub.app; focus ((repeat (first | exact Pick.hd | apply Pick.tl)); done)) | apply Sub.drop)); done))), ?_⟩
  rcases open_new hO with ⟨hfit, l, v8, vs, R8, A8, DA', rfl, hR8, hB8, hDA', rfl⟩ | ⟨hnf, rfl, DA', hDA', rfl⟩
  · skip
    refine AnyJ.valU rfl rfl rfl (opV_move rfl) rfl (fun _ _ _ h => h.2.elim) ?_
    refine AnyJ.valU rfl rfl rfl (opV_extract rfl rfl) rfl (fun _ _ _ h => h.2.elim) ?_
    refine AnyJ.valU rfl rfl rfl (opV_extract rfl rfl) rfl (fun _ _ _ h => h.2.elim) ?_
    refine AnyJ.valU rfl rfl rfl (opV_extract rfl rfl) rfl (fun _ _ _ h => h.2.elim) ?_
    refine AnyJ.valU rfl rfl rfl (opV_assign rfl) rfl (fun _ _ _ h => h.2.elim) ?_
    refine AnyJ.valU rfl rfl rfl (opV_assign rfl) rfl (fun _ _ _ h => h.2.elim) ?_
    refine AnyJ.valU rfl rfl rfl (opV_assign rfl) rfl (fun _ _ _ h => h.2.elim) ?_
    refine AnyJ.nil ?_
    refine Ex.next ?_
    refine Cod.seq ?_
    refine Cod.seq ?_
    refine Cod.region ?_
    refine Ops.val (opV_move rfl) rfl ?_
    refine Ops.val (opV_neq rfl rfl (by first | exact decide_eq_true (by omega) | exact decide_eq_false (by omega) | rfl)) rfl ?_
    refine Ops.nil ?_
    refine Ex.next ?_
    refine Cod.condF rfl ?_
    refine Cod.skip ?_
    refine Ex.next ?_
    refine Cod.seq ?_
    refine Cod.region ?_
    refine Ops.val (opV_move rfl) rfl ?_
    refine Ops.val (opV_nil rfl) rfl ?_
    refine Ops.val (opV_field Fx.fld_129_4 rfl) rfl ?_
    refine Ops.val (opV_load Fx.scal_3 rfl (by repeat (first | exact Cell.one rfl | assumption | apply Cell.tl))) rfl ?_
    refine Ops.val (opV_add64 rfl rfl (by omega)) rfl ?_
    refine Ops.val (opV_nil rfl) rfl ?_
    refine Ops.val (opV_field Fx.fld_129_4 rfl) rfl ?_
    refine Ops.st rfl (opS_store Fx.scal_3 Fx.sz1_3 rfl rfl (by first | rfl | assumption | exact Row.one (by assumption) | exact Sl.one (by assumption)) rfl (by repeat (first | exact Upd.hd | apply Upd.tl)) (by repeat (first | exact LSet.hd | apply LSet.tl))) ?_
    refine Ops.nil ?_
    refine Ex.next ?_
    rw [hc1]
    refine Cod.seq ?_
    refine Cod.draw [3, 7] [0, 1, 2, 4, 5, 6, 8, 9] ([(s, .cells #[.pointer (some ⟨d, 0, none⟩), .map (some mb), .map (some sm), .int .i64 S.last, .int .i64 ((c + 1 : Nat) : Int)] 129)] :: []) [0, 1, 2, 3, 4, 5, 6, 7, 8, 9, 10, 11] M.mixed (by kernel_rfl) ?_
    refine AnyJ.valU rfl rfl rfl (opV_move rfl) rfl (fun _ _ _ h => h.2.elim) ?_
    refine AnyJ.valU rfl rfl rfl (opV_nil rfl) rfl (fun _ _ _ h => h.2.elim) ?_
    refine AnyJ.valU rfl rfl rfl (opV_field Fx.fld_129_2 rfl) rfl (fun _ _ _ h => h.2.elim) ?_
    refine AnyJ.val rfl rfl (opV_load Fx.scal_127 rfl (by repeat (first | exact Cell.one rfl | assumption | apply Cell.tl))) rfl (fun _ _ _ h => h.2.elim) (fun _ h => h.subs (by first | ((repeat (first | exact Sub.refl | exact Sub.nil | apply Sub.emp | (apply Sub.cons; focus ((repeat (first | exact Pick.hd | apply Pick.tl)); done)) | (apply Sub.con; focus ((repeat (first | exact Pick.hd | apply Pick.tl)); done)) | (apply Sub.app; focus ((repeat (first | exact Pick.hd | apply Pick.tl)); done)) | apply Sub.drop)); done) | ((repeat (first | rw [List.append_assoc] | rw [List.cons_append] | rw [List.nil_append] | rw [List.append_nil])); (repeat (first | exact Sub.refl | exact Sub.nil | apply Sub.emp | (apply Sub.cons; focus ((repeat (first | exact Pick.hd | apply Pick.tl)); done)) | (apply Sub.con; focus ((repeat (first | exact Pick.hd | apply Pick.tl)); done)) | (apply Sub.app; focus ((repeat (first | exact Pick.hd | apply Pick.tl)); done)) | apply Sub.drop)); done))) ?_
    refine AnyJ.valU rfl rfl rfl (opV_move rfl) rfl (fun _ _ _ h => h.2.elim) ?_
    refine AnyJ.valU rfl rfl rfl (opV_nil rfl) rfl (fun _ _ _ h => h.2.elim) ?_
    refine AnyJ.valU rfl rfl rfl (opV_field Fx.fld_129_4 rfl) rfl (fun _ _ _ h => h.2.elim) ?_
    refine AnyJ.val rfl rfl (opV_load Fx.scal_3 rfl (by repeat (first | exact Cell.one rfl | assumption | apply Cell.tl))) rfl (fun _ _ _ h => h.2.elim) (fun _ h => h.subs (by first | ((repeat (first | exact Sub.refl | exact Sub.nil | apply Sub.emp | (apply Sub.cons; focus ((repeat (first | exact Pick.hd | apply Pick.tl)); done)) | (apply Sub.con; focus ((repeat (first | exact Pick.hd | apply Pick.tl)); done)) | (apply Sub.app; focus ((repeat (first | exact Pick.hd | apply Pick.tl)); done)) | apply Sub.drop)); done) | ((repeat (first | rw [List.append_assoc] | rw [List.cons_append] | rw [List.nil_append] | rw [List.append_nil])); (repeat (first | exact Sub.refl | exact Sub.nil | apply Sub.emp | (apply Sub.cons; focus ((repeat (first | exact Pick.hd | apply Pick.tl)); done)) | (apply Sub.con; focus ((repeat (first | exact Pick.hd | apply Pick.tl)); done)) | (apply Sub.app; focus ((repeat (first | exact Pick.hd | apply Pick.tl)); done)) | apply Sub.drop)); done))) ?_
    refine AnyJ.valU rfl rfl rfl (opV_move rfl) rfl (fun _ _ _ h => h.2.elim) ?_
    refine AnyJ.valU rfl rfl rfl (opV_build Fx.st_138 rfl (by first | (simp [fillL, vcells, putAt]; rfl) | (simp [fillL, vcells, putAt]; done) | rfl)) rfl (fun _ _ _ h => h.2.elim) ?_
    refine AnyJ.eff rfl rfl (opE_box rfl) rfl ?_
    rintro _ _ ⟨b64, rfl, rfl⟩
    refine ⟨(by first | (intro _ _ h; refine h.subs ?_; (repeat (first | exact Sub.refl | exact Sub.nil | apply Sub.emp | (apply Sub.cons; focus ((repeat (first | exact Pick.hd | apply Pick.tl)); done)) | (apply Sub.con; focus ((repeat (first | exact Pick.hd | apply Pick.tl)); done)) | (apply Sub.app; focus ((repeat (first | exact Pick.hd | apply Pick.tl)); done)) | apply Sub.drop)); done) | exact lead_no (by kernel_rfl)), ?_⟩
    refine AnyJ.stE rfl rfl (opS_mapUpdate (κ := Int) Fx.map_127 rfl rfl rfl (by repeat (first | exact Pick.hd | apply Pick.tl)) hMs ) ?_
    rintro _ ⟨os', hMs', rfl⟩
    refine ⟨(by first | (intro _ _ h; refine h.subs ?_; (repeat (first | exact Sub.refl | exact Sub.nil | apply Sub.emp | (apply Sub.cons; focus ((repeat (first | exact Pick.hd | apply Pick.tl)); done)) | (apply Sub.con; focus ((repeat (first | exact Pick.hd | apply Pick.tl)); done)) | (apply Sub.app; focus ((repeat (first | exact Pick.hd | apply Pick.tl)); done)) | apply Sub.drop)); done) | exact lead_no (by kernel_rfl)), ?_⟩
    refine AnyJ.nil ?_
    refine Ex.next ?_
    refine Cod.seq ?_
    refine Cod.draw [3, 7, 8] [0, 1, 2, 4, 5, 6, 9, 10] ([(s, .cells #[.pointer (some ⟨d, 0, none⟩), .map (some mb), .map (some sm), .int .i64 S.last, .int .i64 ((c + 1 : Nat) : Int)] 129)] :: [(sm, os')] :: []) [0, 1, 2, 3, 4, 5, 6, 7, 8, 9, 10] M.mixed (by kernel_rfl) ?_
    refine AnyJ.valU rfl rfl rfl (opV_move rfl) rfl (fun _ _ _ h => h.2.elim) ?_
    refine AnyJ.valU rfl rfl rfl (opV_nil rfl) rfl (fun _ _ _ h => h.2.elim) ?_
    refine AnyJ.valU rfl rfl rfl (opV_field Fx.fld_129_2 rfl) rfl (fun _ _ _ h => h.2.elim) ?_
    refine AnyJ.val rfl rfl (opV_load Fx.scal_127 rfl (by repeat (first | exact Cell.one rfl | assumption | apply Cell.tl))) rfl (fun _ _ _ h => h.2.elim) (fun _ h => h.subs (by first | ((repeat (first | exact Sub.refl | exact Sub.nil | apply Sub.emp | (apply Sub.cons; focus ((repeat (first | exact Pick.hd | apply Pick.tl)); done)) | (apply Sub.con; focus ((repeat (first | exact Pick.hd | apply Pick.tl)); done)) | (apply Sub.app; focus ((repeat (first | exact Pick.hd | apply Pick.tl)); done)) | apply Sub.drop)); done) | ((repeat (first | rw [List.append_assoc] | rw [List.cons_append] | rw [List.nil_append] | rw [List.append_nil])); (repeat (first | exact Sub.refl | exact Sub.nil | apply Sub.emp | (apply Sub.cons; focus ((repeat (first | exact Pick.hd | apply Pick.tl)); done)) | (apply Sub.con; focus ((repeat (first | exact Pick.hd | apply Pick.tl)); done)) | (apply Sub.app; focus ((repeat (first | exact Pick.hd | apply Pick.tl)); done)) | apply Sub.drop)); done))) ?_
    refine AnyJ.valU rfl rfl rfl (opV_move rfl) rfl (fun _ _ _ h => h.2.elim) ?_
    refine AnyJ.valU rfl rfl rfl (opV_nil rfl) rfl (fun _ _ _ h => h.2.elim) ?_
    refine AnyJ.valU rfl rfl rfl (opV_field Fx.fld_129_4 rfl) rfl (fun _ _ _ h => h.2.elim) ?_
    refine AnyJ.val rfl rfl (opV_load Fx.scal_3 rfl (by repeat (first | exact Cell.one rfl | assumption | apply Cell.tl))) rfl (fun _ _ _ h => h.2.elim) (fun _ h => h.subs (by first | ((repeat (first | exact Sub.refl | exact Sub.nil | apply Sub.emp | (apply Sub.cons; focus ((repeat (first | exact Pick.hd | apply Pick.tl)); done)) | (apply Sub.con; focus ((repeat (first | exact Pick.hd | apply Pick.tl)); done)) | (apply Sub.app; focus ((repeat (first | exact Pick.hd | apply Pick.tl)); done)) | apply Sub.drop)); done) | ((repeat (first | rw [List.append_assoc] | rw [List.cons_append] | rw [List.nil_append] | rw [List.append_nil])); (repeat (first | exact Sub.refl | exact Sub.nil | apply Sub.emp | (apply Sub.cons; focus ((repeat (first | exact Pick.hd | apply Pick.tl)); done)) | (apply Sub.con; focus ((repeat (first | exact Pick.hd | apply Pick.tl)); done)) | (apply Sub.app; focus ((repeat (first | exact Pick.hd | apply Pick.tl)); done)) | apply Sub.drop)); done))) ?_
    refine AnyJ.val rfl rfl (opV_lookup (κ := Int) Fx.map_127 rfl rfl (.mem (by repeat (first | exact List.Mem.head _ | apply List.Mem.tail))) (List.Mem.head _) hMs') rfl (fun _ _ _ h => h.2.elim) (fun _ h => h.subs (by first | ((repeat (first | exact Sub.refl | exact Sub.nil | apply Sub.emp | (apply Sub.cons; focus ((repeat (first | exact Pick.hd | apply Pick.tl)); done)) | (apply Sub.con; focus ((repeat (first | exact Pick.hd | apply Pick.tl)); done)) | (apply Sub.app; focus ((repeat (first | exact Pick.hd | apply Pick.tl)); done)) | apply Sub.drop)); done) | ((repeat (first | rw [List.append_assoc] | rw [List.cons_append] | rw [List.nil_append] | rw [List.append_nil])); (repeat (first | exact Sub.refl | exact Sub.nil | apply Sub.emp | (apply Sub.cons; focus ((repeat (first | exact Pick.hd | apply Pick.tl)); done)) | (apply Sub.con; focus ((repeat (first | exact Pick.hd | apply Pick.tl)); done)) | (apply Sub.app; focus ((repeat (first | exact Pick.hd | apply Pick.tl)); done)) | apply Sub.drop)); done))) ?_
    rw [lkp_ins, if_pos rfl]
    have hadd := MapH.add hSe' (k := ((c + 1 : Nat) : Int)) (v := .pointer (some ⟨b64, 0, none⟩)) (a := ⟨segBase (c + 1), 1, 8, [], false⟩) ((MapH.none_iff hSe').2 hnone) (P := SegP d) (B := segB b64 l (.slice none 0 0) false ++ (logB l d (segBase (c + 1)) 1 8 ++ [])) ⟨b64, l, .slice none 0 0, [], rfl, Row.nil _ _, rfl⟩
    refine AnyJ.valU rfl rfl rfl (opV_assign rfl) rfl (fun _ _ _ h => h.2.elim) ?_
    refine AnyJ.valU rfl rfl rfl (opV_assign rfl) rfl (fun _ _ _ h => h.2.elim) ?_
    refine AnyJ.nil ?_
    refine Ex.next ?_
    refine Cod.ret ?_
    exact Ex.ret2 rfl rfl rfl (fun _ h => h.subs (by first | ((repeat (first | exact Sub.refl | exact Sub.nil | apply Sub.emp | (apply Sub.cons; focus ((repeat (first | exact Pick.hd | apply Pick.tl)); done)) | (apply Sub.con; focus ((repeat (first | exact Pick.hd | apply Pick.tl)); done)) | (apply Sub.app; focus ((repeat (first | exact Pick.hd | apply Pick.tl)); done)) | apply Sub.drop)); done) | ((repeat (first | rw [List.append_assoc] | rw [List.cons_append] | rw [List.nil_append] | rw [List.append_nil])); (repeat (first | exact Sub.refl | exact Sub.nil | apply Sub.emp | (apply Sub.cons; focus ((repeat (first | exact Pick.hd | apply Pick.tl)); done)) | (apply Sub.con; focus ((repeat (first | exact Pick.hd | apply Pick.tl)); done)) | (apply Sub.app; focus ((repeat (first | exact Pick.hd | apply Pick.tl)); done)) | apply Sub.drop)); done))) (.inl ⟨hfit, _, _, DA', rfl, ⟨mb, ob, kb, sm, os', _, BA, _, hM, hBo, hMs', hadd, by simp only [SK.newSeg]; rw [lkp_ins, if_pos rfl]; rfl, rfl⟩, hDA', rfl⟩)
  · skip
    refine AnyJ.valU rfl rfl rfl (opV_move rfl) rfl (fun _ _ _ h => h.2.elim) ?_
    refine AnyJ.valU rfl rfl rfl (opV_extract rfl rfl) rfl (fun _ _ _ h => h.2.elim) ?_
    refine AnyJ.valU rfl rfl rfl (opV_extract rfl rfl) rfl (fun _ _ _ h => h.2.elim) ?_
    refine AnyJ.valU rfl rfl rfl (opV_extract rfl rfl) rfl (fun _ _ _ h => h.2.elim) ?_
    refine AnyJ.valU rfl rfl rfl (opV_assign rfl) rfl (fun _ _ _ h => h.2.elim) ?_
    refine AnyJ.valU rfl rfl rfl (opV_assign rfl) rfl (fun _ _ _ h => h.2.elim) ?_
    refine AnyJ.valU rfl rfl rfl (opV_assign rfl) rfl (fun _ _ _ h => h.2.elim) ?_
    refine AnyJ.nil ?_
    refine Ex.next ?_
    refine Cod.seq ?_
    refine Cod.seq ?_
    refine Cod.region ?_
    refine Ops.val (opV_move rfl) rfl ?_
    refine Ops.val (opV_neq rfl rfl (by first | exact decide_eq_true (by omega) | exact decide_eq_false (by omega) | rfl)) rfl ?_
    refine Ops.nil ?_
    refine Ex.next ?_
    refine Cod.condT rfl ?_
    refine Cod.seq ?_
    refine Cod.region ?_
    refine Ops.val (opV_move rfl) rfl ?_
    refine Ops.val (opV_assign rfl) rfl ?_
    refine Ops.val (opV_assign rfl) rfl ?_
    refine Ops.nil ?_
    refine Ex.next ?_
    refine Cod.ret ?_
    refine Ex.thenRet ?_
    exact Ex.ret2 rfl rfl rfl (fun _ h => h.subs (by first | ((repeat (first | exact Sub.refl | exact Sub.nil | apply Sub.emp | (apply Sub.cons; focus ((repeat (first | exact Pick.hd | apply Pick.tl)); done)) | (apply Sub.con; focus ((repeat (first | exact Pick.hd | apply Pick.tl)); done)) | (apply Sub.app; focus ((repeat (first | exact Pick.hd | apply Pick.tl)); done)) | apply Sub.drop)); done) | ((repeat (first | rw [List.append_assoc] | rw [List.cons_append] | rw [List.nil_append] | rw [List.append_nil])); (repeat (first | exact Sub.refl | exact Sub.nil | apply Sub.emp | (apply Sub.cons; focus ((repeat (first | exact Pick.hd | apply Pick.tl)); done)) | (apply Sub.con; focus ((repeat (first | exact Pick.hd | apply Pick.tl)); done)) | (apply Sub.app; focus ((repeat (first | exact Pick.hd | apply Pick.tl)); done)) | apply Sub.drop)); done))) (.inr ⟨hnf, rfl, _, DA', ⟨mb, ob, kb, sm, os, ks, BA, _, hM, hBo, hMs, hSe', rfl⟩, hDA', rfl⟩)
theorem room_cur (hcur : lkp S.current S.segs = some sg) (hsz : sg.size < 65536) (hw : Owns e w As) (hA : Has e As A) (hS : StoreA s d S A) :
    Calls Tryz.prog 62 #[.pointer (some ⟨s, 0, none⟩)] w (Ret e fun u Bs => ∃ v, u = .tuple #[v, .int .i64 0] ∧ StoreX s d S v A ∧ Bs = As) := by
  obtain ⟨mb, ob, kb, sm, os, ks, BA, GA, hM, hBo, hMs, hSe, rfl⟩ := hS
  obtain ⟨kv, hkc⟩ : ∃ v, lkp S.current ks = some v := by
    cases hx : lkp S.current ks with
    | none => rw [(MapH.none_iff hSe).1 hx] at hcur; cases hcur
    | some v => exact ⟨v, rfl⟩
  obtain ⟨sb, lb, iv, g, RI, GA', rfl, hsk, hRI, hsown, hsput, _, hin⟩ := SegM.get (e := e) hSe hkc
  rw [hcur] at hsk
  cases hsk
  have hin' : ∀ x ∈ GA, x ∈ (s, Obj.cells #[.pointer (some ⟨d, 0, none⟩), .map (some mb), .map (some sm), .int .i64 S.last, .int .i64 S.current] 129) :: (mb, ob) :: (sm, os) :: (BA ++ GA) := fun x hx => .tail _ (.tail _ (.tail _ (List.mem_append.2 (.inr hx))))
  refine enter Tryz.func62 rfl Tryz.ntmps62 hw rfl ?_
  refine Cod.seq ?_
  refine Cod.region ?_
  refine Ops.val (opV_assign rfl) rfl ?_
  refine Ops.val (opV_assign rfl) rfl ?_
  refine Ops.nil ?_
  refine Ex.next ?_
  refine Cod.seq ?_
  refine Cod.seq ?_
  refine Cod.draw0 [3, 7, 8] [0, 1, 2, 4, 5, 6, 9] [0, 1, 2, 3, 4, 5, 6, 7, 8, 9] M.mixed (by kernel_rfl) ?_
  refine AnyJ.valU rfl rfl rfl (opV_move rfl) rfl (fun _ _ _ h => h.2.elim) ?_
  refine AnyJ.valU rfl rfl rfl (opV_nil rfl) rfl (fun _ _ _ h => h.2.elim) ?_
  refine AnyJ.valU rfl rfl rfl (opV_field Fx.fld_129_2 rfl) rfl (fun _ _ _ h => h.2.elim) ?_
  refine AnyJ.val rfl rfl (opV_load Fx.scal_127 rfl (cellOf hA (List.Mem.head _) rfl)) rfl (fun _ _ _ h => h.2.elim) (fun _ h => h) ?_
  refine AnyJ.valU rfl rfl rfl (opV_move rfl) rfl (fun _ _ _ h => h.2.elim) ?_
  refine AnyJ.valU rfl rfl rfl (opV_nil rfl) rfl (fun _ _ _ h => h.2.elim) ?_
  refine AnyJ.valU rfl rfl rfl (opV_field Fx.fld_129_4 rfl) rfl (fun _ _ _ h => h.2.elim) ?_
  refine AnyJ.val rfl rfl (opV_load Fx.scal_3 rfl (cellOf hA (List.Mem.head _) rfl)) rfl (fun _ _ _ h => h.2.elim) (fun _ h => h) ?_
  refine AnyJ.val rfl rfl (opV_lookup (κ := Int) Fx.map_127 rfl rfl hA (.tail _ (.tail _ (.head _))) hMs) rfl (fun _ _ _ h => h.2.elim) (fun _ h => h) ?_
  rw [hkc]
  refine AnyJ.valU rfl rfl rfl (opV_assign rfl) rfl (fun _ _ _ h => h.2.elim) ?_
  refine AnyJ.nil ?_
  refine Ex.next ?_
  refine Cod.seq ?_
  refine Cod.region ?_
  refine Ops.val (opV_move rfl) rfl ?_
  refine Ops.val (opV_ptrnnil Fx.ptr_133 rfl rfl rfl) rfl ?_
  refine Ops.val (opV_move rfl) rfl ?_
  refine Ops.valg rfl (opV_move rfl) rfl ?_
  refine Ops.valg rfl (opV_nil rfl) rfl ?_
  refine Ops.valg rfl (opV_field Fx.fld_138_0 rfl) rfl ?_
  refine Ops.valg rfl (opV_load Fx.scal_136 rfl (cellOf (i := 0) hA (hin' _ (hin _ (List.mem_append.2 (.inl (.head _))))) rfl)) rfl ?_
  refine Ops.call rfl (opC_call Fx.cal_132 rfl (fun w hw => logSize' (base := sg.base) (gen := sg.gen) (size := sg.size) (d := d) hw (hin' _ (hin _ (List.mem_append.2 (.inr (List.mem_append.2 (.inl (.head _))))))) hA)) rfl ?_
  rintro v24 _ ⟨rfl, rfl⟩
  refine Ops.valg rfl (opV_lss rfl rfl (by first | exact decide_eq_true (by omega) | exact decide_eq_false (by omega) | rfl)) rfl ?_
  refine Ops.val (opV_pickT rfl rfl) rfl ?_
  refine Ops.nil ?_
  refine Ex.next ?_
  refine Cod.condT rfl ?_
  refine Cod.seq ?_
  refine Cod.region ?_
  refine Ops.val (opV_move rfl) rfl ?_
  refine Ops.val (opV_assign rfl) rfl ?_
  refine Ops.val (opV_assign rfl) rfl ?_
  refine Ops.nil ?_
  refine Ex.next ?_
  refine Cod.ret ?_
  refine Ex.thenRet ?_
  exact Ex.ret2 rfl rfl rfl (fun _ h => h.subs (by first | ((repeat (first | exact Sub.refl | exact Sub.nil | apply Sub.emp | (apply Sub.cons; focus ((repeat (first | exact Pick.hd | apply Pick.tl)); done)) | (apply Sub.con; focus ((repeat (first | exact Pick.hd | apply Pick.tl)); done)) | (apply Sub.app; focus ((repeat (first | exact Pick.hd | apply Pick.tl)); done)) | apply Sub.drop)); done) | ((repeat (first | rw [List.append_assoc] | rw [List.cons_append] | rw [List.nil_append] | rw [List.append_nil])); (repeat (first | exact Sub.refl | exact Sub.nil | apply Sub.emp | (apply Sub.cons; focus ((repeat (first | exact Pick.hd | apply Pick.tl)); done)) | (apply Sub.con; focus ((repeat (first | exact Pick.hd | apply Pick.tl)); done)) | (apply Sub.app; focus ((repeat (first | exact Pick.hd | apply Pick.tl)); done)) | apply Sub.drop)); done))) ⟨_, rfl, ⟨mb, ob, kb, sm, os, ks, BA, GA, hM, hBo, hMs, hSe, hkc, rfl⟩, rfl⟩
end
end Go.Proofs.YteejmoldhbfdnaaGreatDoor.Bod3
