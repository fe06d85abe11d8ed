/- Package bodies: Put. -/
import Derived.Test.YteejmoldhbfdnaaGreatDoorBod3
set_option maxRecDepth 8000
namespace Go.Proofs.YteejmoldhbfdnaaGreatDoor.Bod4
open Go.W Go.RowKit Lib1 Oct OctR Seal Disk Disk2 Wal Num Wal2 Wal3 Bod Bod2 Bod3
namespace Fx
theorem cal_61 : callable Tryz.prog 61 = true := by kernel_rfl
theorem cal_62 : callable Tryz.prog 62 = true := by kernel_rfl
theorem cal_63 : callable Tryz.prog 63 = true := by kernel_rfl
theorem cal_64 : callable Tryz.prog 64 = true := by kernel_rfl
theorem fld_129_1 : fieldOff Tryz.prog 129 1 = some 1 := by kernel_rfl
theorem fld_129_3 : fieldOff Tryz.prog 129 3 = some 3 := by kernel_rfl
theorem fld_129_4 : fieldOff Tryz.prog 129 4 = some 4 := by kernel_rfl
theorem fld_132_2 : fieldOff Tryz.prog 132 2 = some 2 := by kernel_rfl
theorem fld_138_0 : fieldOff Tryz.prog 138 0 = some 0 := by kernel_rfl
theorem fld_138_1 : fieldOff Tryz.prog 138 1 = some 1 := by kernel_rfl
theorem map_126 : mapInfo Tryz.prog 126 = some (.int .i64, (.pointer none)) := by kernel_rfl
theorem ni_77 : notInt Tryz.prog 77 = true := by kernel_rfl
theorem scal_126 : scalarB Tryz.prog 126 = true := by kernel_rfl
theorem scal_136 : scalarB Tryz.prog 136 = true := by kernel_rfl
theorem scal_3 : scalarB Tryz.prog 3 = true := by kernel_rfl
theorem scal_77 : scalarB Tryz.prog 77 = true := by kernel_rfl
theorem sl_29 : slInfo Tryz.prog 29 = some (5, 1, 1, some (.int .u8 0)) := by kernel_rfl
theorem sl_77 : slInfo Tryz.prog 77 = some (3, 1, 8, some (.int .i64 0)) := by kernel_rfl
theorem st_132 : stInfo Tryz.prog 132 = some (#[(.slice none 0 0), (.int .i64 0), (.int .i64 0)], #[(0, 1), (1, 1), (2, 1)]) := by kernel_rfl
theorem sz1_3 : (Tryz.prog.info? 3).map (·.size) = some 1 := by kernel_rfl
theorem sz1_77 : (Tryz.prog.info? 77).map (·.size) = some 1 := by kernel_rfl

end Fx
/-- What a store's calls stand on. -/
structure SOK (S : SK) (c : Nat) (D : DK) : Prop where
  cur : S.current = (c : Int)
  cl : c ≤ 1000000000
  next : lkp ((c + 1 : Nat) : Int) S.segs = none
  file : ∀ g', lkp (fileF (segBase (c + 1)) g') D.files = none
  seg : ∀ n g, lkp n S.segs = some g → okBase g.base ∧ g.gen ≤ 999999990 ∧ g.size ≤ 900000000 ∧ g.ids.length ≤ 100000000
  fresh : lkp (S.last + 1) S.bodies = none
  last : 0 ≤ S.last ∧ S.last ≤ 1000000000000
/-- The segment to write to, and the disk then. -/
def RoomOK (S : SK) (c : Nat) (D : DK) (S1 : SK) (D1 : DK) : Prop :=
  (S1 = S ∧ D1 = D ∧ ∃ g, lkp S.current S.segs = some g ∧ g.size < 65536) ∨
  (S1 = S.newSeg c ∧ D1 = newD D c ∧ (D.used : Int) + 8 ≤ D.room ∧ ∀ g, lkp S.current S.segs = some g → 65536 ≤ g.size)
def NoRoom (S : SK) (D : DK) : Prop := D.room < (D.used : Int) + 8 ∧ ∀ g, lkp S.current S.segs = some g → 65536 ≤ g.size
section
variable {e : Ctx} {w : World} {As F G : List Hp} {A DA B : Hp} {s d c : Nat} {S : SK} {D : DK} {sg : SegK} {data : Str} {v : Value}
def RoomR (s d c : Nat) (S : SK) (D : DK) (G : List Hp) (u : Value) (Bs : List Hp) : Prop :=
  (∃ v S1 D1 A' DA', u = .tuple #[v, .int .i64 0] ∧ RoomOK S c D S1 D1 ∧ StoreX s d S1 v A' ∧ DiskA d D1 DA' ∧ Bs = A' :: DA' :: G) ∨
  (NoRoom S D ∧ u = .tuple #[.pointer none, .int .i64 6] ∧ ∃ A' DA', StoreA s d S A' ∧ DiskA d D DA' ∧ Bs = A' :: DA' :: G)
theorem room_any (hG : Glob e) (hE : Kit.HasErr e) (hK : DOK D) (hO : SOK S c D) (hw : Owns e w As) (hp : Pick As A F) (hq : Pick F DA G) (hS : StoreA s d S A) (hD : DiskA d D DA) :
    Calls Tryz.prog 62 #[.pointer (some ⟨s, 0, none⟩)] w (Ret e (RoomR s d c S D G)) := by
  have conv : (∀ g, lkp S.current S.segs = some g → 65536 ≤ g.size) → ∀ u Bs, RoomPost s d c S D G u Bs → ∀ w, Owns e w Bs → ∃ Cs, RoomR s d c S D G u Cs ∧ Owns e w Cs := by
    rintro hb u Bs (⟨hfit, v, A', DA', rfl, h1, h2, rfl⟩ | ⟨hfit, rfl, A', DA', h1, h2, rfl⟩) w h
    · exact ⟨_, .inl ⟨v, _, _, A', DA', rfl, .inr ⟨rfl, rfl, hfit, hb⟩, h1, h2, rfl⟩, h⟩
    · exact ⟨_, .inr ⟨⟨hfit, hb⟩, rfl, A', DA', h1, h2, rfl⟩, h⟩
  cases hx : lkp S.current S.segs with
  | none => exact Calls.imp (room_none hG hE hK hO.cur hO.cl hO.next hO.file hx hw hp hq hS hD) (conv (fun g h => by rw [hx] at h; cases h))
  | some g =>
    by_cases hb : g.size < 65536
    · refine Calls.imp (room_cur hx hb (hw.pick2 hp hq) (.mem (.head _)) hS) ?_
      rintro u Bs ⟨v, rfl, hX, rfl⟩ w h
      exact ⟨_, .inl ⟨v, S, D, A, DA, rfl, .inl ⟨rfl, rfl, g, hx, hb⟩, hX, hD, rfl⟩, h⟩
    · exact Calls.imp (room_big hG hE hK hO.cur hO.cl hO.next hO.file hx (by omega) hw hp hq hS hD) (conv (fun g' h => by rw [hx] at h; cases h; omega))
theorem put_long {m : Nat} {du : Bool} (hm : m = data.length) (hl : 262144 < data.length) (hw : Owns e w As) (hv : Sl B 1 v m (bcells data)) :
    Calls Tryz.prog 12 #[.pointer (some ⟨s, 0, none⟩), v, .bool du] w (Ret e fun u Bs => u = .tuple #[.int .i64 0, .int .i64 1] ∧ Bs = As) := by
  subst hm
  refine enter Tryz.func12 rfl Tryz.ntmps12 hw rfl ?_
  refine Cod.seq ?_
  refine Cod.region ?_
  refine Ops.val (opV_assign rfl) rfl ?_
  refine Ops.val (opV_assign rfl) rfl ?_
  refine Ops.nil ?_
  refine Ex.next ?_
  refine Cod.seq ?_
  refine Cod.seq ?_
  refine Cod.region ?_
  refine Ops.val (opV_move rfl) rfl ?_
  refine Ops.val (opV_len Fx.sl_29 rfl hv.isSlice) rfl ?_
  refine Ops.val (opV_gtr rfl rfl (by first | exact decide_eq_true (by omega) | exact decide_eq_false (by omega) | rfl)) rfl ?_
  refine Ops.nil ?_
  refine Ex.next ?_
  refine Cod.condT rfl ?_
  refine Cod.seq ?_
  refine Cod.region ?_
  refine Ops.val (opV_assign rfl) rfl ?_
  refine Ops.val (opV_assign rfl) rfl ?_
  refine Ops.nil ?_
  refine Ex.next ?_
  refine Cod.ret ?_
  refine Ex.thenRet ?_
  exact Ex.ret2 rfl rfl rfl (fun _ h => h.subs (by first | ((repeat (first | exact Sub.refl | exact Sub.nil | apply Sub.emp | (apply Sub.cons; focus ((repeat (first | exact Pick.hd | apply Pick.tl)); done)) | (apply Sub.con; focus ((repeat (first | exact Pick.hd | apply Pick.tl)); done)) | (apply Sub.app; focus ((repeat (first | exact Pick.hd | apply Pick.tl)); done)) | apply Sub.drop)); done) | ((repeat (first | rw [List.append_assoc] | rw [List.cons_append] | rw [List.nil_append] | rw [List.append_nil])); (repeat (first | exact Sub.refl | exact Sub.nil | apply Sub.emp | (apply Sub.cons; focus ((repeat (first | exact Pick.hd | apply Pick.tl)); done)) | (apply Sub.con; focus ((repeat (first | exact Pick.hd | apply Pick.tl)); done)) | (apply Sub.app; focus ((repeat (first | exact Pick.hd | apply Pick.tl)); done)) | apply Sub.drop)); done))) ⟨rfl, rfl⟩
theorem put_soft {m : Nat} (hm : m = data.length) (hl : data.length ≤ 262144) (hl1 : 0 ≤ S.last ∧ S.last ≤ 1000000000000) (hfr : lkp (S.last + 1) S.bodies = none) (hw : Owns e w As) (hp : Pick As A F) (hB : Has e F B) (hS : StoreA s d S A) (hv : Sl B 1 v m (bcells data)) :
    Calls Tryz.prog 12 #[.pointer (some ⟨s, 0, none⟩), v, .bool false] w
      (Ret e fun u Bs => u = .tuple #[.int .i64 (S.last + 1), .int .i64 0] ∧ ∃ A', StoreA s d { S with bodies := ins (S.last + 1) (data, 1, 0) S.bodies, last := S.last + 1 } A' ∧ Bs = A' :: F) := by
  subst hm
  obtain ⟨mb, ob, kb, sm, os, ks, BA, GA, hM, hBo, hMs, hSe, rfl⟩ := hS
  refine enter Tryz.func12 rfl Tryz.ntmps12 (Owns.store (hw.pick hp)) rfl ?_
  refine Cod.seq ?_
  refine Cod.region ?_
  refine Ops.val (opV_assign rfl) rfl ?_
  refine Ops.val (opV_assign rfl) rfl ?_
  refine Ops.nil ?_
  refine Ex.next ?_
  refine Cod.seq ?_
  refine Cod.seq ?_
  refine Cod.region ?_
  refine Ops.val (opV_move rfl) rfl ?_
  refine Ops.val (opV_len Fx.sl_29 rfl hv.isSlice) rfl ?_
  refine Ops.val (opV_gtr rfl rfl (by first | exact decide_eq_true (by omega) | exact decide_eq_false (by omega) | rfl)) rfl ?_
  refine Ops.nil ?_
  refine Ex.next ?_
  refine Cod.condF rfl ?_
  refine Cod.skip ?_
  refine Ex.next ?_
  refine Cod.seq ?_
  refine Cod.region ?_
  refine Ops.val (opV_move rfl) rfl ?_
  refine Ops.val (opV_nil rfl) rfl ?_
  refine Ops.val (opV_field Fx.fld_129_3 rfl) rfl ?_
  refine Ops.val (opV_load Fx.scal_3 rfl (by repeat (first | exact Cell.one rfl | assumption | apply Cell.tl))) rfl ?_
  refine Ops.val (opV_add64 rfl rfl (by omega)) rfl ?_
  refine Ops.val (opV_assign rfl) rfl ?_
  refine Ops.nil ?_
  refine Ex.next ?_
  refine Cod.seq ?_
  refine Cod.region ?_
  refine Ops.val (opV_move rfl) rfl ?_
  refine Ops.call rfl (opC_call Fx.cal_61 rfl (fun w hw => clone_bytes hw hv (by repeat (first | assumption | apply Has.up)) (bcells_one _) (by omega) (by omega))) rfl ?_
  rintro v22 _ ⟨A22, hA22, rfl⟩
  obtain ⟨a22, c22, rfl⟩ := hA22.isSlice
  refine Ops.val (opV_build Fx.st_132 rfl (by first | (simp [fillL, vcells, putAt]; rfl) | (simp [fillL, vcells, putAt]; done) | rfl)) rfl ?_
  refine Ops.eff rfl (opE_box rfl) rfl ?_
  rintro _ _ ⟨b24, rfl, rfl⟩
  refine Ops.val (opV_assign rfl) rfl ?_
  refine Ops.nil ?_
  refine Ex.next ?_
  refine Cod.seq ?_
  refine Cod.seq ?_
  refine Cod.region ?_
  refine Ops.val (opV_move rfl) rfl ?_
  refine Ops.nil ?_
  refine Ex.next ?_
  refine Cod.condF rfl ?_
  refine Cod.skip ?_
  refine Ex.next ?_
  refine Cod.seq ?_
  refine Cod.region ?_
  refine Ops.val (opV_move rfl) rfl ?_
  refine Ops.val (opV_nil rfl) rfl ?_
  refine Ops.val (opV_field Fx.fld_129_1 rfl) rfl ?_
  refine Ops.val (opV_load Fx.scal_126 rfl (by repeat (first | exact Cell.one rfl | assumption | apply Cell.tl))) rfl ?_
  refine Ops.val (opV_move rfl) rfl ?_
  refine Ops.val (opV_move rfl) rfl ?_
  refine Ops.stE rfl (opS_mapUpdate (κ := Int) Fx.map_126 rfl rfl rfl (by repeat (first | exact Pick.hd | apply Pick.tl)) hM ) ?_
  rintro _ ⟨ob', hM', rfl⟩
  have hadd := MapH.add hBo (k := S.last + 1) (v := .pointer (some ⟨b24, 0, none⟩)) (a := (data, 1, 0)) ((MapH.none_iff hBo).2 hfr) (P := BodyP) (B := (b24, .cells #[.slice a22 data.length c22, .int .i64 1, .int .i64 0] 132) :: A22) ⟨b24, _, A22, rfl, hA22, rfl⟩
  refine Ops.nil ?_
  refine Ex.next ?_
  refine Cod.seq ?_
  refine Cod.region ?_
  refine Ops.val (opV_move rfl) rfl ?_
  refine Ops.val (opV_move rfl) rfl ?_
  refine Ops.val (opV_nil rfl) rfl ?_
  refine Ops.val (opV_field Fx.fld_129_3 rfl) rfl ?_
  refine Ops.st rfl (opS_store Fx.scal_3 Fx.sz1_3 rfl rfl (by first | rfl | assumption | exact Row.one (by assumption) | exact Sl.one (by assumption)) rfl (by repeat (first | exact Upd.hd | apply Upd.tl)) (by repeat (first | exact LSet.hd | apply LSet.tl))) ?_
  refine Ops.nil ?_
  refine Ex.next ?_
  refine Cod.seq ?_
  refine Cod.region ?_
  refine Ops.val (opV_move rfl) rfl ?_
  refine Ops.val (opV_assign rfl) rfl ?_
  refine Ops.val (opV_assign rfl) rfl ?_
  refine Ops.nil ?_
  refine Ex.next ?_
  refine Cod.ret ?_
  exact Ex.ret2 rfl rfl rfl (fun _ h => h.subs (by first | ((repeat (first | exact Sub.refl | exact Sub.nil | apply Sub.emp | (apply Sub.cons; focus ((repeat (first | exact Pick.hd | apply Pick.tl)); done)) | (apply Sub.con; focus ((repeat (first | exact Pick.hd | apply Pick.tl)); done)) | (apply Sub.app; focus ((repeat (first | exact Pick.hd | apply Pick.tl)); done)) | apply Sub.drop)); done) | ((repeat (first | rw [List.append_assoc] | rw [List.cons_append] | rw [List.nil_append] | rw [List.append_nil])); (repeat (first | exact Sub.refl | exact Sub.nil | apply Sub.emp | (apply Sub.cons; focus ((repeat (first | exact Pick.hd | apply Pick.tl)); done)) | (apply Sub.con; focus ((repeat (first | exact Pick.hd | apply Pick.tl)); done)) | (apply Sub.app; focus ((repeat (first | exact Pick.hd | apply Pick.tl)); done)) | apply Sub.drop)); done))) ⟨rfl, _, ⟨mb, ob', _, sm, os, ks, _, GA, hM', hadd, hMs, hSe, rfl⟩, rfl⟩
/-- One body written down. -/
def rec1 (id : Int) (data : Str) : Str := recF (fun _ => data) [id]
theorem rec1_len (id : Int) (data : Str) : (rec1 id data).length = 12 + data.length := by simp [rec1, recF, be_length]; omega
def _root_.Go.Proofs.YteejmoldhbfdnaaGreatDoor.Bod.SK.put (S : SK) (data : Str) (g : SegK) : SK :=
  { bodies := ins (S.last + 1) (data, 1, S.current) S.bodies, segs := ins S.current { g with size := g.size + (wrapped (rec1 (S.last + 1) data)).length, ids := g.ids ++ [S.last + 1] } S.segs, last := S.last + 1, current := S.current }
theorem roomOK_facts {S1 : SK} {D1 : DK} (h : RoomOK S c D S1 D1) (hO : SOK S c D) (hK : DOK D) :
    S1.last = S.last ∧ S1.bodies = S.bodies ∧ D1.room = D.room ∧ D1.used ≤ D.used + 8 ∧ D1.pend.length < 100000000 ∧
    (∃ g, lkp S1.current S1.segs = some g ∧ okBase g.base ∧ g.gen ≤ 999999990 ∧ g.size ≤ 900000000 ∧ g.ids.length ≤ 100000000) := by
  rcases h with ⟨rfl, rfl, g, hg, hs⟩ | ⟨rfl, rfl, hf, hb⟩
  · exact ⟨rfl, rfl, rfl, by omega, hK.pn, g, hg, hO.seg _ _ hg⟩
  · refine ⟨rfl, rfl, ?_, ?_, ?_, ⟨segBase (c + 1), 1, 8, [], false⟩, ?_, okBase_seg (n := c + 1) (by have := hO.cl; omega), by dsimp only; omega, by dsimp only; omega, by simp⟩
    · simp [newD, sync_room, append_room]
    · simp [newD, sync_used, append_used, wrapped_length]
    · simp [newD, sync_pend]
    · simp only [SK.newSeg]; rw [lkp_ins, if_pos rfl]
def PutR (s d c : Nat) (S : SK) (D : DK) (data : Str) (G : List Hp) (u : Value) (Bs : List Hp) : Prop :=
  (∃ S1 D1 g A' DA', RoomOK S c D S1 D1 ∧ lkp S1.current S1.segs = some g ∧ (D1.used : Int) + (wrapped (rec1 (S.last + 1) data)).length ≤ D1.room ∧ u = .tuple #[.int .i64 (S.last + 1), .int .i64 0] ∧
    StoreA s d (S1.put data g) A' ∧ DiskA d (D1.append (fileF g.base g.gen) (wrapped (rec1 (S.last + 1) data))) DA' ∧ Bs = A' :: DA' :: G) ∨
  (∃ S1 D1 A' DA', RoomOK S c D S1 D1 ∧ D1.room < (D1.used : Int) + (wrapped (rec1 (S.last + 1) data)).length ∧ u = .tuple #[.int .i64 0, .int .i64 6] ∧ StoreA s d S1 A' ∧ DiskA d D1 DA' ∧ Bs = A' :: DA' :: G) ∨
  (NoRoom S D ∧ u = .tuple #[.int .i64 0, .int .i64 6] ∧ ∃ A' DA', StoreA s d S A' ∧ DiskA d D DA' ∧ Bs = A' :: DA' :: G)
theorem ins_self {κ V : Type} [MKey κ] {k : κ} {v : V} : ∀ {m : List (κ × V)}, lkp k m = some v → ins k v m = m
  | [], h => by cases h
  | (k1, v1) :: m, h => by
    by_cases h1 : k1 = k
    · subst h1; simp [lkp] at h; subst h; simp [ins]
    · simp [lkp, h1] at h; simp [ins, h1, ins_self h]
/-- Append's two ways. -/
theorem logAppend_any {p l gen size : Nat} {base rec_ : Str} {A B : Hp} {F G : List Hp} (hG : Glob e) (hk : gen ≤ 9000000000000000000) (hg : good (fileF base gen)) (hs : size ≤ 900000000) (hu : D.used ≤ 900000000) (hn : D.pend.length ≤ 100000000) (hr : D.room ≤ 9223372036854775807 ∧ -9223372036854775808 ≤ D.room) (hl : rec_.length ≤ 1048576)
    {m : Nat} (hm : m = rec_.length) (hw : Owns e w As) (hp : Pick As A F) (hq : Pick F (logB l p base gen size) G) (hD : DiskA p D A) (hB : Has e G B) (hv : Sl B 1 v m (bcells rec_)) :
    Calls Tryz.prog 63 #[.pointer (some ⟨l, 0, none⟩), v] w
      (Ret e fun u Bs => ∃ err D' sz A', u = .int .i64 err ∧ ((err = 0 ∧ (D.used : Int) + (wrapped rec_).length ≤ D.room ∧ D' = D.append (fileF base gen) (wrapped rec_) ∧ sz = size + (wrapped rec_).length) ∨ (err = 6 ∧ D.room < (D.used : Int) + (wrapped rec_).length ∧ D' = D ∧ sz = size)) ∧ DiskA p D' A' ∧ Bs = A' :: logB l p base gen sz :: G) := by
  by_cases hf : (D.used : Int) + (wrapped rec_).length ≤ D.room
  · refine Calls.imp (logAppend_ok hG hk hg hs hu hn hr.1 hl hf hm hw hp hq hD hB hv) ?_
    rintro u Bs ⟨rfl, A', hA', rfl⟩ w h
    exact ⟨_, ⟨0, _, _, A', rfl, .inl ⟨rfl, hf, rfl, rfl⟩, hA', rfl⟩, h⟩
  · refine Calls.imp (logAppend_full hG hk hg hu hr hl (by omega) hm (hw.pick2 hp hq) (.mem (.head _)) (.mem (.tail _ (.head _))) hD hB.up.up hv) ?_
    rintro u Bs ⟨rfl, rfl⟩ w h
    exact ⟨_, ⟨6, _, _, A, rfl, .inr ⟨rfl, by omega, rfl, rfl⟩, hD, rfl⟩, h⟩
theorem put_hard {m : Nat} (hm : m = data.length) (hl : data.length ≤ 262144) (hG : Glob e) (hE : Kit.HasErr e) (hK : DOK D) (hu : D.used ≤ 800000000) (hO : SOK S c D) (hw : Owns e w As) (hp : Pick As A F) (hq : Pick F DA G) (hB : Has e G B) (hS : StoreA s d S A) (hD : DiskA d D DA) (hv : Sl B 1 v m (bcells data)) :
    Calls Tryz.prog 12 #[.pointer (some ⟨s, 0, none⟩), v, .bool true] w (Ret e (PutR s d c S D data G)) := by
  subst hm
  have hS0 := hS
  have hl1 := hO.last
  obtain ⟨mb, ob, kb, sm, os, ks, BA, GA, hM, hBo, hMs, hSe, rfl⟩ := hS
  have hr1 := rec1_len (S.last + 1) data
  have hwr := wrapped_length (rec1 (S.last + 1) data)
  refine enter Tryz.func12 rfl Tryz.ntmps12 (hw.pick2 hp hq) rfl ?_
  refine Cod.seq ?_
  refine Cod.region ?_
  refine Ops.val (opV_assign rfl) rfl ?_
  refine Ops.val (opV_assign rfl) rfl ?_
  refine Ops.nil ?_
  refine Ex.next ?_
  refine Cod.seq ?_
  refine Cod.seq ?_
  refine Cod.region ?_
  refine Ops.val (opV_move rfl) rfl ?_
  refine Ops.val (opV_len Fx.sl_29 rfl hv.isSlice) rfl ?_
  refine Ops.val (opV_gtr rfl rfl (by first | exact decide_eq_true (by omega) | exact decide_eq_false (by omega) | rfl)) rfl ?_
  refine Ops.nil ?_
  refine Ex.next ?_
  refine Cod.condF rfl ?_
  refine Cod.skip ?_
  refine Ex.next ?_
  refine Cod.seq ?_
  refine Cod.region ?_
  refine Ops.val (opV_move rfl) rfl ?_
  refine Ops.val (opV_nil rfl) rfl ?_
  refine Ops.val (opV_field Fx.fld_129_3 rfl) rfl ?_
  refine Ops.val (opV_load Fx.scal_3 rfl (cellOf (i := 3) (.mem (List.Mem.head _)) (List.Mem.head _) rfl)) rfl ?_
  refine Ops.val (opV_add64 rfl rfl (by omega)) rfl ?_
  refine Ops.val (opV_assign rfl) rfl ?_
  refine Ops.nil ?_
  refine Ex.next ?_
  refine Cod.seq ?_
  refine Cod.region ?_
  refine Ops.val (opV_move rfl) rfl ?_
  refine Ops.call rfl (opC_call Fx.cal_61 rfl (fun w hw => clone_bytes hw hv (by repeat (first | assumption | apply Has.up)) (bcells_one _) (by omega) (by omega))) rfl ?_
  rintro v22 _ ⟨A22, hA22, rfl⟩
  obtain ⟨a22, c22, rfl⟩ := hA22.isSlice
  refine Ops.val (opV_build Fx.st_132 rfl (by first | (simp [fillL, vcells, putAt]; rfl) | (simp [fillL, vcells, putAt]; done) | rfl)) rfl ?_
  refine Ops.eff rfl (opE_box rfl) rfl ?_
  rintro _ _ ⟨b24, rfl, rfl⟩
  refine Ops.val (opV_assign rfl) rfl ?_
  refine Ops.nil ?_
  refine Ex.next ?_
  refine Cod.seq ?_
  refine Cod.seq ?_
  refine Cod.region ?_
  refine Ops.val (opV_move rfl) rfl ?_
  refine Ops.nil ?_
  refine Ex.next ?_
  refine Cod.condT rfl ?_
  refine Cod.seq ?_
  refine Cod.region ?_
  refine Ops.val (opV_move rfl) rfl ?_
  refine Ops.call rfl (opC_call Fx.cal_62 rfl (fun w hw => room_any (c := c) hG hE hK hO hw (by repeat (first | exact Pick.hd | apply Pick.tl)) (by repeat (first | exact Pick.hd | apply Pick.tl)) hS0 hD)) rfl ?_
  rintro v28 _ hR
  rcases hR with ⟨sv, S1, D1, A1, DA1, rfl, hRO, hX, hD1, rfl⟩ | ⟨hNo, rfl, A1, DA1, hS1, hD1, rfl⟩
  · skip
    refine Ops.val (opV_move rfl) rfl ?_
    refine Ops.val (opV_extract rfl rfl) rfl ?_
    refine Ops.val (opV_extract rfl rfl) rfl ?_
    refine Ops.val (opV_assign rfl) rfl ?_
    refine Ops.val (opV_assign rfl) rfl ?_
    refine Ops.nil ?_
    refine Ex.next ?_
    refine Cod.seq ?_
    refine Cod.seq ?_
    refine Cod.region ?_
    refine Ops.val (opV_move rfl) rfl ?_
    refine Ops.val (opV_neq rfl rfl (by first | exact decide_eq_true (by omega) | exact decide_eq_false (by omega) | rfl)) rfl ?_
    refine Ops.nil ?_
    refine Ex.next ?_
    refine Cod.condF rfl ?_
    obtain ⟨f1, f2, f3, f4, f5, g, f6, f7, f8, f9, f10⟩ := roomOK_facts hRO hO hK
    obtain ⟨mb1, ob1, kb1, sm1, os1, ks1, BA1, GA1, hM1, hBo1, hMs1, hSe1, hkc, rfl⟩ := hX
    obtain ⟨sb, lb, iv, g', RI, GA', rfl, hsk, hRI, hsown, hsput, _, _⟩ := SegM.get (e := e) hSe1 hkc
    rw [f6] at hsk
    cases hsk
    have hself := ins_self f6
    have hwn := (good_file (n := g.gen) f7 (by omega))
    refine Cod.heap (fun _ h => hsown _ _ ((Owns.store (h.pick (A := (s, _) :: (mb1, ob1) :: (sm1, os1) :: (BA1 ++ GA1)) (by repeat (first | exact Pick.hd | apply Pick.tl)))).pick (A := GA1) (by repeat (first | exact Pick.hd | apply Pick.tl)))) ?_
    refine Cod.skip ?_
    refine Ex.next ?_
    refine Cod.seq ?_
    refine Cod.seqCut (X := Int × DK × Nat × Hp) (fun (err, D2, sz, DA2) => [(0, .pointer (some ⟨s, 0, none⟩)), (8, .int .i64 (S.last + 1)), (9, .pointer (some ⟨b24, 0, none⟩)), (10, .pointer (some ⟨sb, 0, none⟩)), (12, .int .i64 err)]) (fun (err, D2, sz, DA2) => DA2 :: logB lb d g.base g.gen sz :: segB sb lb iv g.stale :: RI :: GA' :: [(s, .cells #[.pointer (some ⟨d, 0, none⟩), .map (some mb1), .map (some sm1), .int .i64 S1.last, .int .i64 S1.current] 129)] :: [(mb1, ob1)] :: [(sm1, os1)] :: BA1 :: bodB b24 (.slice a22 data.length c22) 1 0 :: A22 :: G) (fun (err, D2, sz, DA2) => ((err = 0 ∧ (D1.used : Int) + (wrapped (rec1 (S.last + 1) data)).length ≤ D1.room ∧ D2 = D1.append (fileF g.base g.gen) (wrapped (rec1 (S.last + 1) data)) ∧ sz = g.size + (wrapped (rec1 (S.last + 1) data)).length) ∨ (err = 6 ∧ D1.room < (D1.used : Int) + (wrapped (rec1 (S.last + 1) data)).length ∧ D2 = D1 ∧ sz = g.size)) ∧ DiskA d D2 DA2) ?_ ?_
    · skip
      refine Cod.drawX [3] [0, 1, 2, 4, 7, 8, 10, 13] (segB sb lb iv g.stale :: []) M.mixed ?_
      refine AnyX.go [0, 1, 2, 3, 4, 7, 8] (fun x => x == #[true, true, true, true, true, false, false, true, true, false, false, false, false, false]) 7 (by kernel_rfl) (by kernel_rfl) (by kernel_rfl) rfl ?_
      refine AnyJ.valU rfl rfl rfl (opV_move rfl) rfl (fun _ _ _ h => h.2.elim) ?_
      refine AnyJ.valU rfl rfl rfl (opV_nil rfl) rfl (fun _ _ _ h => h.2.elim) ?_
      refine AnyJ.valU rfl rfl rfl (opV_field Fx.fld_138_0 rfl) rfl (fun _ _ _ h => h.2.elim) ?_
      refine AnyJ.val rfl rfl (opV_load Fx.scal_136 rfl (by repeat (first | exact Cell.one rfl | assumption | apply Cell.tl))) rfl (fun _ _ _ h => h.2.elim) (fun _ h => h.subs (by first | ((repeat (first | exact Sub.refl | exact Sub.nil | apply Sub.emp | (apply Sub.cons; focus ((repeat (first | exact Pick.hd | apply Pick.tl)); done)) | (apply Sub.con; focus ((repeat (first | exact Pick.hd | apply Pick.tl)); done)) | (apply Sub.app; focus ((repeat (first | exact Pick.hd | apply Pick.tl)); done)) | apply Sub.drop)); done) | ((repeat (first | rw [List.append_assoc] | rw [List.cons_append] | rw [List.nil_append] | rw [List.append_nil])); (repeat (first | exact Sub.refl | exact Sub.nil | apply Sub.emp | (apply Sub.cons; focus ((repeat (first | exact Pick.hd | apply Pick.tl)); done)) | (apply Sub.con; focus ((repeat (first | exact Pick.hd | apply Pick.tl)); done)) | (apply Sub.app; focus ((repeat (first | exact Pick.hd | apply Pick.tl)); done)) | apply Sub.drop)); done))) ?_
      refine AnyJ.valU rfl rfl rfl (opV_move rfl) rfl (fun _ _ _ h => h.2.elim) ?_
      refine AnyJ.valU rfl rfl rfl (opV_move rfl) rfl (fun _ _ _ h => h.2.elim) ?_
      refine AnyJ.valU rfl rfl rfl (opV_move rfl) rfl (fun _ _ _ h => h.2.elim) ?_
      refine AnyJ.stop ?_
      refine AnyX.two 5 6 6 rfl (by kernel_rfl) rfl rfl rfl rfl rfl rfl ?_ ?_
      · skip
        refine AnyX.effStep (opE_buildSlice Fx.sl_77 rfl rfl (by first | (simp [fillL, rowCells, vcells, putAt]; rfl) | (simp [fillL, rowCells, vcells, putAt]; done) | rfl)) rfl ?_
        rintro _ _ ⟨b39, rfl, rfl⟩
        refine ⟨(by first | (intro _ _ h; refine h.subs ?_; (repeat (first | exact Sub.refl | exact Sub.nil | apply Sub.emp | (apply Sub.cons; focus ((repeat (first | exact Pick.hd | apply Pick.tl)); done)) | (apply Sub.con; focus ((repeat (first | exact Pick.hd | apply Pick.tl)); done)) | (apply Sub.app; focus ((repeat (first | exact Pick.hd | apply Pick.tl)); done)) | apply Sub.drop)); done) | exact lead_no (by kernel_rfl)), ?_⟩
        refine AnyX.go0 [6, 9, 10, 11, 12, 13] (by kernel_rfl) (by kernel_rfl) (by kernel_rfl) rfl ?_
        refine AnyJ.eff rfl rfl opE_makeMap rfl ?_
        rintro _ _ ⟨b40, rfl, rfl⟩
        refine ⟨(by first | (intro _ _ h; refine h.subs ?_; (repeat (first | exact Sub.refl | exact Sub.nil | apply Sub.emp | (apply Sub.cons; focus ((repeat (first | exact Pick.hd | apply Pick.tl)); done)) | (apply Sub.con; focus ((repeat (first | exact Pick.hd | apply Pick.tl)); done)) | (apply Sub.app; focus ((repeat (first | exact Pick.hd | apply Pick.tl)); done)) | apply Sub.drop)); done) | exact lead_no (by kernel_rfl)), ?_⟩
        refine AnyJ.stE rfl rfl (opS_insert (κ := Int) Fx.map_126 rfl rfl rfl (by repeat (first | exact Pick.hd | apply Pick.tl)) (MapO.new rfl) ) ?_
        rintro _ ⟨om, hom, rfl⟩
        refine ⟨(by first | (intro _ _ h; refine h.subs ?_; (repeat (first | exact Sub.refl | exact Sub.nil | apply Sub.emp | (apply Sub.cons; focus ((repeat (first | exact Pick.hd | apply Pick.tl)); done)) | (apply Sub.con; focus ((repeat (first | exact Pick.hd | apply Pick.tl)); done)) | (apply Sub.app; focus ((repeat (first | exact Pick.hd | apply Pick.tl)); done)) | apply Sub.drop)); done) | exact lead_no (by kernel_rfl)), ?_⟩
        refine AnyJ.valU rfl rfl rfl (opV_move rfl) rfl (fun _ _ _ h => h.2.elim) ?_
        refine AnyJ.call rfl rfl (opC_call Fx.cal_64 rfl (fun w hw => record_spec (ids := [S.last + 1]) (get := fun _ => data) rfl (by have := rec1_len (S.last + 1) data; unfold rec1 at this; omega) hw (Row.made (n := 1) rfl (by simp [maxLen])).sl (.mem (by repeat (first | exact List.Mem.head _ | apply List.Mem.tail))) hom (List.Mem.head _) (.mem (by repeat (first | exact List.Mem.head _ | apply List.Mem.tail))) (fun id' hid => by rw [List.mem_singleton] at hid; subst hid; exact ⟨b24, _, 1, 0, _, A22, by simp [ins, lkp], (.mem (by repeat (first | exact List.Mem.head _ | apply List.Mem.tail))), List.Mem.head _, (.mem (by repeat (first | exact List.Mem.head _ | apply List.Mem.tail))), hA22.sl⟩))) rfl ?_
        rintro v44 _ ⟨A44, hA44, rfl⟩
        refine ⟨(by first | (intro _ _ h; refine h.subs ?_; (repeat (first | exact Sub.refl | exact Sub.nil | apply Sub.emp | (apply Sub.cons; focus ((repeat (first | exact Pick.hd | apply Pick.tl)); done)) | (apply Sub.con; focus ((repeat (first | exact Pick.hd | apply Pick.tl)); done)) | (apply Sub.app; focus ((repeat (first | exact Pick.hd | apply Pick.tl)); done)) | apply Sub.drop)); done) | exact lead_no (by kernel_rfl)), ?_⟩
        refine AnyJ.call rfl rfl (opC_call Fx.cal_63 rfl (fun w hw => logAppend_any (rec_ := rec1 (S.last + 1) data) (gen := g.gen) (size := g.size) (base := g.base) hG (by omega) hwn f9 (by omega) (by omega) (by have := hK.rm; omega) (by omega) rfl hw (A := DA1) (by repeat (first | exact Pick.hd | apply Pick.tl)) (by repeat (first | exact Pick.hd | apply Pick.tl)) hD1 (.mem (by repeat (first | exact List.Mem.head _ | apply List.Mem.tail))) hA44.sl)) rfl ?_
        rintro v45 _ ⟨err, D2, sz, DA2, rfl, hres, hDA2, rfl⟩
        refine ⟨(by first | (intro _ _ h; refine h.subs ?_; (repeat (first | exact Sub.refl | exact Sub.nil | apply Sub.emp | (apply Sub.cons; focus ((repeat (first | exact Pick.hd | apply Pick.tl)); done)) | (apply Sub.con; focus ((repeat (first | exact Pick.hd | apply Pick.tl)); done)) | (apply Sub.app; focus ((repeat (first | exact Pick.hd | apply Pick.tl)); done)) | apply Sub.drop)); done) | exact lead_no (by kernel_rfl)), ?_⟩
        refine AnyJ.valU rfl rfl rfl (opV_assign rfl) rfl (fun _ _ _ h => h.2.elim) ?_
        refine AnyJ.nil ?_
        refine Ex.toN (fun _ _ hs => ⟨(err, D2, sz, DA2), ⟨hres, hDA2⟩, hs⟩) (by repeat (first | exact trivial | refine ⟨rfl, ?_⟩)) (fun _ h => h.subs (by first | ((repeat (first | exact Sub.refl | exact Sub.nil | apply Sub.emp | (apply Sub.cons; focus ((repeat (first | exact Pick.hd | apply Pick.tl)); done)) | (apply Sub.con; focus ((repeat (first | exact Pick.hd | apply Pick.tl)); done)) | (apply Sub.app; focus ((repeat (first | exact Pick.hd | apply Pick.tl)); done)) | apply Sub.drop)); done) | ((repeat (first | rw [List.append_assoc] | rw [List.cons_append] | rw [List.nil_append] | rw [List.append_nil])); (repeat (first | exact Sub.refl | exact Sub.nil | apply Sub.emp | (apply Sub.cons; focus ((repeat (first | exact Pick.hd | apply Pick.tl)); done)) | (apply Sub.con; focus ((repeat (first | exact Pick.hd | apply Pick.tl)); done)) | (apply Sub.app; focus ((repeat (first | exact Pick.hd | apply Pick.tl)); done)) | apply Sub.drop)); done)))
      · skip
        refine AnyX.effStep opE_makeMap rfl ?_
        rintro _ _ ⟨b40, rfl, rfl⟩
        refine ⟨(by first | (intro _ _ h; refine h.subs ?_; (repeat (first | exact Sub.refl | exact Sub.nil | apply Sub.emp | (apply Sub.cons; focus ((repeat (first | exact Pick.hd | apply Pick.tl)); done)) | (apply Sub.con; focus ((repeat (first | exact Pick.hd | apply Pick.tl)); done)) | (apply Sub.app; focus ((repeat (first | exact Pick.hd | apply Pick.tl)); done)) | apply Sub.drop)); done) | exact lead_no (by kernel_rfl)), ?_⟩
        refine AnyX.two 5 9 5 rfl (by kernel_rfl) rfl rfl rfl rfl rfl rfl ?_ ?_
        · skip
          refine AnyX.effStep (opE_buildSlice Fx.sl_77 rfl rfl (by first | (simp [fillL, rowCells, vcells, putAt]; rfl) | (simp [fillL, rowCells, vcells, putAt]; done) | rfl)) rfl ?_
          rintro _ _ ⟨b39, rfl, rfl⟩
          refine ⟨(by first | (intro _ _ h; refine h.subs ?_; (repeat (first | exact Sub.refl | exact Sub.nil | apply Sub.emp | (apply Sub.cons; focus ((repeat (first | exact Pick.hd | apply Pick.tl)); done)) | (apply Sub.con; focus ((repeat (first | exact Pick.hd | apply Pick.tl)); done)) | (apply Sub.app; focus ((repeat (first | exact Pick.hd | apply Pick.tl)); done)) | apply Sub.drop)); done) | exact lead_no (by kernel_rfl)), ?_⟩
          refine AnyX.go0 [9, 10, 11, 12, 13] (by kernel_rfl) (by kernel_rfl) (by kernel_rfl) rfl ?_
          refine AnyJ.stE rfl rfl (opS_insert (κ := Int) Fx.map_126 rfl rfl rfl (by repeat (first | exact Pick.hd | apply Pick.tl)) (MapO.new rfl) ) ?_
          rintro _ ⟨om, hom, rfl⟩
          refine ⟨(by first | (intro _ _ h; refine h.subs ?_; (repeat (first | exact Sub.refl | exact Sub.nil | apply Sub.emp | (apply Sub.cons; focus ((repeat (first | exact Pick.hd | apply Pick.tl)); done)) | (apply Sub.con; focus ((repeat (first | exact Pick.hd | apply Pick.tl)); done)) | (apply Sub.app; focus ((repeat (first | exact Pick.hd | apply Pick.tl)); done)) | apply Sub.drop)); done) | exact lead_no (by kernel_rfl)), ?_⟩
          refine AnyJ.valU rfl rfl rfl (opV_move rfl) rfl (fun _ _ _ h => h.2.elim) ?_
          refine AnyJ.call rfl rfl (opC_call Fx.cal_64 rfl (fun w hw => record_spec (ids := [S.last + 1]) (get := fun _ => data) rfl (by have := rec1_len (S.last + 1) data; unfold rec1 at this; omega) hw (Row.made (n := 1) rfl (by simp [maxLen])).sl (.mem (by repeat (first | exact List.Mem.head _ | apply List.Mem.tail))) hom (List.Mem.head _) (.mem (by repeat (first | exact List.Mem.head _ | apply List.Mem.tail))) (fun id' hid => by rw [List.mem_singleton] at hid; subst hid; exact ⟨b24, _, 1, 0, _, A22, by simp [ins, lkp], (.mem (by repeat (first | exact List.Mem.head _ | apply List.Mem.tail))), List.Mem.head _, (.mem (by repeat (first | exact List.Mem.head _ | apply List.Mem.tail))), hA22.sl⟩))) rfl ?_
          rintro v44 _ ⟨A44, hA44, rfl⟩
          refine ⟨(by first | (intro _ _ h; refine h.subs ?_; (repeat (first | exact Sub.refl | exact Sub.nil | apply Sub.emp | (apply Sub.cons; focus ((repeat (first | exact Pick.hd | apply Pick.tl)); done)) | (apply Sub.con; focus ((repeat (first | exact Pick.hd | apply Pick.tl)); done)) | (apply Sub.app; focus ((repeat (first | exact Pick.hd | apply Pick.tl)); done)) | apply Sub.drop)); done) | exact lead_no (by kernel_rfl)), ?_⟩
          refine AnyJ.call rfl rfl (opC_call Fx.cal_63 rfl (fun w hw => logAppend_any (rec_ := rec1 (S.last + 1) data) (gen := g.gen) (size := g.size) (base := g.base) hG (by omega) hwn f9 (by omega) (by omega) (by have := hK.rm; omega) (by omega) rfl hw (A := DA1) (by repeat (first | exact Pick.hd | apply Pick.tl)) (by repeat (first | exact Pick.hd | apply Pick.tl)) hD1 (.mem (by repeat (first | exact List.Mem.head _ | apply List.Mem.tail))) hA44.sl)) rfl ?_
          rintro v45 _ ⟨err, D2, sz, DA2, rfl, hres, hDA2, rfl⟩
          refine ⟨(by first | (intro _ _ h; refine h.subs ?_; (repeat (first | exact Sub.refl | exact Sub.nil | apply Sub.emp | (apply Sub.cons; focus ((repeat (first | exact Pick.hd | apply Pick.tl)); done)) | (apply Sub.con; focus ((repeat (first | exact Pick.hd | apply Pick.tl)); done)) | (apply Sub.app; focus ((repeat (first | exact Pick.hd | apply Pick.tl)); done)) | apply Sub.drop)); done) | exact lead_no (by kernel_rfl)), ?_⟩
          refine AnyJ.valU rfl rfl rfl (opV_assign rfl) rfl (fun _ _ _ h => h.2.elim) ?_
          refine AnyJ.nil ?_
          refine Ex.toN (fun _ _ hs => ⟨(err, D2, sz, DA2), ⟨hres, hDA2⟩, hs⟩) (by repeat (first | exact trivial | refine ⟨rfl, ?_⟩)) (fun _ h => h.subs (by first | ((repeat (first | exact Sub.refl | exact Sub.nil | apply Sub.emp | (apply Sub.cons; focus ((repeat (first | exact Pick.hd | apply Pick.tl)); done)) | (apply Sub.con; focus ((repeat (first | exact Pick.hd | apply Pick.tl)); done)) | (apply Sub.app; focus ((repeat (first | exact Pick.hd | apply Pick.tl)); done)) | apply Sub.drop)); done) | ((repeat (first | rw [List.append_assoc] | rw [List.cons_append] | rw [List.nil_append] | rw [List.append_nil])); (repeat (first | exact Sub.refl | exact Sub.nil | apply Sub.emp | (apply Sub.cons; focus ((repeat (first | exact Pick.hd | apply Pick.tl)); done)) | (apply Sub.con; focus ((repeat (first | exact Pick.hd | apply Pick.tl)); done)) | (apply Sub.app; focus ((repeat (first | exact Pick.hd | apply Pick.tl)); done)) | apply Sub.drop)); done)))
        · skip
          refine AnyX.stEStep (opS_insert (κ := Int) Fx.map_126 rfl rfl rfl (by repeat (first | exact Pick.hd | apply Pick.tl)) (MapO.new rfl) ) ?_
          rintro _ ⟨om, hom, rfl⟩
          refine ⟨(by first | (intro _ _ h; refine h.subs ?_; (repeat (first | exact Sub.refl | exact Sub.nil | apply Sub.emp | (apply Sub.cons; focus ((repeat (first | exact Pick.hd | apply Pick.tl)); done)) | (apply Sub.con; focus ((repeat (first | exact Pick.hd | apply Pick.tl)); done)) | (apply Sub.app; focus ((repeat (first | exact Pick.hd | apply Pick.tl)); done)) | apply Sub.drop)); done) | exact lead_no (by kernel_rfl)), ?_⟩
          refine AnyX.go0 [10, 5, 11, 12, 13] (by kernel_rfl) (by kernel_rfl) (by kernel_rfl) rfl ?_
          refine AnyJ.valU rfl rfl rfl (opV_move rfl) rfl (fun _ _ _ h => h.2.elim) ?_
          refine AnyJ.eff rfl rfl (opE_buildSlice Fx.sl_77 rfl rfl (by first | (simp [fillL, rowCells, vcells, putAt]; rfl) | (simp [fillL, rowCells, vcells, putAt]; done) | rfl)) rfl ?_
          rintro _ _ ⟨b39, rfl, rfl⟩
          refine ⟨(by first | (intro _ _ h; refine h.subs ?_; (repeat (first | exact Sub.refl | exact Sub.nil | apply Sub.emp | (apply Sub.cons; focus ((repeat (first | exact Pick.hd | apply Pick.tl)); done)) | (apply Sub.con; focus ((repeat (first | exact Pick.hd | apply Pick.tl)); done)) | (apply Sub.app; focus ((repeat (first | exact Pick.hd | apply Pick.tl)); done)) | apply Sub.drop)); done) | exact lead_no (by kernel_rfl)), ?_⟩
          refine AnyJ.call rfl rfl (opC_call Fx.cal_64 rfl (fun w hw => record_spec (ids := [S.last + 1]) (get := fun _ => data) rfl (by have := rec1_len (S.last + 1) data; unfold rec1 at this; omega) hw (Row.made (n := 1) rfl (by simp [maxLen])).sl (.mem (by repeat (first | exact List.Mem.head _ | apply List.Mem.tail))) hom (List.Mem.head _) (.mem (by repeat (first | exact List.Mem.head _ | apply List.Mem.tail))) (fun id' hid => by rw [List.mem_singleton] at hid; subst hid; exact ⟨b24, _, 1, 0, _, A22, by simp [ins, lkp], (.mem (by repeat (first | exact List.Mem.head _ | apply List.Mem.tail))), List.Mem.head _, (.mem (by repeat (first | exact List.Mem.head _ | apply List.Mem.tail))), hA22.sl⟩))) rfl ?_
          rintro v44 _ ⟨A44, hA44, rfl⟩
          refine ⟨(by first | (intro _ _ h; refine h.subs ?_; (repeat (first | exact Sub.refl | exact Sub.nil | apply Sub.emp | (apply Sub.cons; focus ((repeat (first | exact Pick.hd | apply Pick.tl)); done)) | (apply Sub.con; focus ((repeat (first | exact Pick.hd | apply Pick.tl)); done)) | (apply Sub.app; focus ((repeat (first | exact Pick.hd | apply Pick.tl)); done)) | apply Sub.drop)); done) | exact lead_no (by kernel_rfl)), ?_⟩
          refine AnyJ.call rfl rfl (opC_call Fx.cal_63 rfl (fun w hw => logAppend_any (rec_ := rec1 (S.last + 1) data) (gen := g.gen) (size := g.size) (base := g.base) hG (by omega) hwn f9 (by omega) (by omega) (by have := hK.rm; omega) (by omega) rfl hw (A := DA1) (by repeat (first | exact Pick.hd | apply Pick.tl)) (by repeat (first | exact Pick.hd | apply Pick.tl)) hD1 (.mem (by repeat (first | exact List.Mem.head _ | apply List.Mem.tail))) hA44.sl)) rfl ?_
          rintro v45 _ ⟨err, D2, sz, DA2, rfl, hres, hDA2, rfl⟩
          refine ⟨(by first | (intro _ _ h; refine h.subs ?_; (repeat (first | exact Sub.refl | exact Sub.nil | apply Sub.emp | (apply Sub.cons; focus ((repeat (first | exact Pick.hd | apply Pick.tl)); done)) | (apply Sub.con; focus ((repeat (first | exact Pick.hd | apply Pick.tl)); done)) | (apply Sub.app; focus ((repeat (first | exact Pick.hd | apply Pick.tl)); done)) | apply Sub.drop)); done) | exact lead_no (by kernel_rfl)), ?_⟩
          refine AnyJ.valU rfl rfl rfl (opV_assign rfl) rfl (fun _ _ _ h => h.2.elim) ?_
          refine AnyJ.nil ?_
          refine Ex.toN (fun _ _ hs => ⟨(err, D2, sz, DA2), ⟨hres, hDA2⟩, hs⟩) (by repeat (first | exact trivial | refine ⟨rfl, ?_⟩)) (fun _ h => h.subs (by first | ((repeat (first | exact Sub.refl | exact Sub.nil | apply Sub.emp | (apply Sub.cons; focus ((repeat (first | exact Pick.hd | apply Pick.tl)); done)) | (apply Sub.con; focus ((repeat (first | exact Pick.hd | apply Pick.tl)); done)) | (apply Sub.app; focus ((repeat (first | exact Pick.hd | apply Pick.tl)); done)) | apply Sub.drop)); done) | ((repeat (first | rw [List.append_assoc] | rw [List.cons_append] | rw [List.nil_append] | rw [List.append_nil])); (repeat (first | exact Sub.refl | exact Sub.nil | apply Sub.emp | (apply Sub.cons; focus ((repeat (first | exact Pick.hd | apply Pick.tl)); done)) | (apply Sub.con; focus ((repeat (first | exact Pick.hd | apply Pick.tl)); done)) | (apply Sub.app; focus ((repeat (first | exact Pick.hd | apply Pick.tl)); done)) | apply Sub.drop)); done)))
    · rintro ⟨err, D2, sz, DA2⟩ ⟨hres, hDA2⟩
      try dsimp only
      rcases hres with ⟨rfl, hfit, rfl, rfl⟩ | ⟨rfl, hnf, hx, rfl⟩
      · skip
        refine Cod.seq ?_
        refine Cod.region ?_
        refine Ops.val (opV_move rfl) rfl ?_
        refine Ops.val (opV_neq rfl rfl (by first | exact decide_eq_true (by omega) | exact decide_eq_false (by omega) | rfl)) rfl ?_
        refine Ops.nil ?_
        refine Ex.next ?_
        refine Cod.condF rfl ?_
        refine Cod.skip ?_
        refine Ex.next ?_
        refine Cod.seq ?_
        refine Cod.region ?_
        refine Ops.val (opV_move rfl) rfl ?_
        refine Ops.val (opV_move rfl) rfl ?_
        refine Ops.val (opV_nil rfl) rfl ?_
        refine Ops.val (opV_field Fx.fld_129_4 rfl) rfl ?_
        refine Ops.val (opV_load Fx.scal_3 rfl (by repeat (first | exact Cell.one rfl | assumption | apply Cell.tl))) rfl ?_
        refine Ops.val (opV_nil rfl) rfl ?_
        refine Ops.val (opV_field Fx.fld_132_2 rfl) rfl ?_
        refine Ops.st rfl (opS_store Fx.scal_3 Fx.sz1_3 rfl rfl (by first | rfl | assumption | exact Row.one (by assumption) | exact Sl.one (by assumption)) rfl (by repeat (first | exact Upd.hd | apply Upd.tl)) (by repeat (first | exact LSet.hd | apply LSet.tl))) ?_
        refine Ops.nil ?_
        refine Ex.next ?_
        refine Cod.region ?_
        refine Ops.val (opV_move rfl) rfl ?_
        refine Ops.val (opV_move rfl) rfl ?_
        refine Ops.val (opV_nil rfl) rfl ?_
        refine Ops.val (opV_field Fx.fld_138_1 rfl) rfl ?_
        refine Ops.val (opV_load Fx.scal_77 rfl (by repeat (first | exact Cell.one rfl | assumption | apply Cell.tl))) rfl ?_
        refine Ops.val (opV_move rfl) rfl ?_
        refine Ops.eff rfl (opE_buildSlice Fx.sl_77 rfl rfl (by first | (simp [fillL, rowCells, vcells, putAt]; rfl) | (simp [fillL, rowCells, vcells, putAt]; done) | rfl)) rfl ?_
        rintro _ _ ⟨b62, rfl, rfl⟩
        refine Ops.eff rfl (opE_append Fx.sl_77 rfl Fx.ni_77 rfl rfl (by repeat (first | exact Pick.hd | apply Pick.tl)) hRI (one_src (.mem (by repeat (first | exact List.Mem.head _ | apply List.Mem.tail))) rfl (by simp [Value.oneCell'])) (by omega) (by simp [maxLen]; omega)) rfl ?_
        rintro v63 _ ⟨A63, hA63, rfl⟩
        refine Ops.val (opV_nil rfl) rfl ?_
        refine Ops.val (opV_field Fx.fld_138_1 rfl) rfl ?_
        refine Ops.st rfl (opS_store Fx.scal_77 Fx.sz1_77 rfl rfl (by first | rfl | assumption | exact Row.one (by assumption) | exact Sl.one (by assumption)) rfl (by repeat (first | exact Upd.hd | apply Upd.tl)) (by repeat (first | exact LSet.hd | apply LSet.tl))) ?_
        refine Ops.nil ?_
        refine Ex.next ?_
        refine Cod.seq ?_
        refine Cod.region ?_
        refine Ops.val (opV_move rfl) rfl ?_
        refine Ops.val (opV_nil rfl) rfl ?_
        refine Ops.val (opV_field Fx.fld_129_1 rfl) rfl ?_
        refine Ops.val (opV_load Fx.scal_126 rfl (by repeat (first | exact Cell.one rfl | assumption | apply Cell.tl))) rfl ?_
        refine Ops.val (opV_move rfl) rfl ?_
        refine Ops.val (opV_move rfl) rfl ?_
        refine Ops.stE rfl (opS_mapUpdate (κ := Int) Fx.map_126 rfl rfl rfl (by repeat (first | exact Pick.hd | apply Pick.tl)) hM1 ) ?_
        rintro _ ⟨ob2, hM2, rfl⟩
        have hfr : lkp (S.last + 1) kb1 = none := (MapH.none_iff hBo1).2 (by rw [f2]; exact hO.fresh)
        have hadd := MapH.add hBo1 (k := S.last + 1) (v := .pointer (some ⟨b24, 0, none⟩)) (a := (data, 1, S1.current)) hfr (P := BodyP) (B := (b24, .cells #[.slice a22 data.length c22, .int .i64 1, .int .i64 S1.current] 132) :: A22) ⟨b24, _, A22, rfl, hA22, rfl⟩
        have hsp := hsput { g with size := g.size + (wrapped (rec1 (S.last + 1) data)).length, ids := g.ids ++ [S.last + 1] } v63 A63 (by simpa using hA63)
        have hput : S1.put data g = ⟨ins (S.last + 1) (data, 1, S1.current) S1.bodies, ins S1.current { g with size := g.size + (wrapped (rec1 (S.last + 1) data)).length, ids := g.ids ++ [S.last + 1] } S1.segs, S.last + 1, S1.current⟩ := by simp only [SK.put, f1]
        have hPR : ∀ u Bs, ((∃ A' DA', u = .tuple #[.int .i64 (S.last + 1), .int .i64 0] ∧ StoreA s d ⟨ins (S.last + 1) (data, 1, S1.current) S1.bodies, ins S1.current { g with size := g.size + (wrapped (rec1 (S.last + 1) data)).length, ids := g.ids ++ [S.last + 1] } S1.segs, S.last + 1, S1.current⟩ A' ∧ DiskA d (D1.append (fileF g.base g.gen) (wrapped (rec1 (S.last + 1) data))) DA' ∧ Bs = A' :: DA' :: G) → PutR s d c S D data G u Bs) := fun u Bs ⟨A', DA', h1, h2, h3, h4⟩ => .inl ⟨S1, D1, g, A', DA', hRO, f6, hfit, h1, by rw [hput]; exact h2, h3, h4⟩
        refine Ops.nil ?_
        refine Ex.next ?_
        refine Cod.seq ?_
        refine Cod.region ?_
        refine Ops.val (opV_move rfl) rfl ?_
        refine Ops.val (opV_move rfl) rfl ?_
        refine Ops.val (opV_nil rfl) rfl ?_
        refine Ops.val (opV_field Fx.fld_129_3 rfl) rfl ?_
        refine Ops.st rfl (opS_store Fx.scal_3 Fx.sz1_3 rfl rfl (by first | rfl | assumption | exact Row.one (by assumption) | exact Sl.one (by assumption)) rfl (by repeat (first | exact Upd.hd | apply Upd.tl)) (by repeat (first | exact LSet.hd | apply LSet.tl))) ?_
        refine Ops.nil ?_
        refine Ex.next ?_
        refine Cod.seq ?_
        refine Cod.region ?_
        refine Ops.val (opV_move rfl) rfl ?_
        refine Ops.val (opV_assign rfl) rfl ?_
        refine Ops.val (opV_assign rfl) rfl ?_
        refine Ops.nil ?_
        refine Ex.next ?_
        refine Cod.ret ?_
        exact Ex.ret2 rfl rfl rfl (fun _ h => h.subs (by first | ((repeat (first | exact Sub.refl | exact Sub.nil | apply Sub.emp | (apply Sub.cons; focus ((repeat (first | exact Pick.hd | apply Pick.tl)); done)) | (apply Sub.con; focus ((repeat (first | exact Pick.hd | apply Pick.tl)); done)) | (apply Sub.app; focus ((repeat (first | exact Pick.hd | apply Pick.tl)); done)) | apply Sub.drop)); done) | ((repeat (first | rw [List.append_assoc] | rw [List.cons_append] | rw [List.nil_append] | rw [List.append_nil])); (repeat (first | exact Sub.refl | exact Sub.nil | apply Sub.emp | (apply Sub.cons; focus ((repeat (first | exact Pick.hd | apply Pick.tl)); done)) | (apply Sub.con; focus ((repeat (first | exact Pick.hd | apply Pick.tl)); done)) | (apply Sub.app; focus ((repeat (first | exact Pick.hd | apply Pick.tl)); done)) | apply Sub.drop)); done))) (hPR _ _ ⟨_, DA2, rfl, ⟨mb1, ob2, _, sm1, os1, ks1, _, _, hM2, hadd, hMs1, hsp, rfl⟩, hDA2, rfl⟩)
      · skip
        obtain rfl := hx.symm
        refine Cod.seq ?_
        refine Cod.region ?_
        refine Ops.val (opV_move rfl) rfl ?_
        refine Ops.val (opV_neq rfl rfl (by first | exact decide_eq_true (by omega) | exact decide_eq_false (by omega) | rfl)) rfl ?_
        refine Ops.nil ?_
        refine Ex.next ?_
        refine Cod.condT rfl ?_
        refine Cod.seq ?_
        refine Cod.region ?_
        refine Ops.val (opV_move rfl) rfl ?_
        refine Ops.val (opV_assign rfl) rfl ?_
        refine Ops.val (opV_assign rfl) rfl ?_
        refine Ops.nil ?_
        refine Ex.next ?_
        refine Cod.ret ?_
        refine Ex.thenRet ?_
        refine Ex.thenRet ?_
        exact Ex.ret2 rfl rfl rfl (fun _ h => h.subs (by first | ((repeat (first | exact Sub.refl | exact Sub.nil | apply Sub.emp | (apply Sub.cons; focus ((repeat (first | exact Pick.hd | apply Pick.tl)); done)) | (apply Sub.con; focus ((repeat (first | exact Pick.hd | apply Pick.tl)); done)) | (apply Sub.app; focus ((repeat (first | exact Pick.hd | apply Pick.tl)); done)) | apply Sub.drop)); done) | ((repeat (first | rw [List.append_assoc] | rw [List.cons_append] | rw [List.nil_append] | rw [List.append_nil])); (repeat (first | exact Sub.refl | exact Sub.nil | apply Sub.emp | (apply Sub.cons; focus ((repeat (first | exact Pick.hd | apply Pick.tl)); done)) | (apply Sub.con; focus ((repeat (first | exact Pick.hd | apply Pick.tl)); done)) | (apply Sub.app; focus ((repeat (first | exact Pick.hd | apply Pick.tl)); done)) | apply Sub.drop)); done))) (.inr (.inl ⟨S1, D1, _, DA2, hRO, hnf, rfl, ⟨mb1, ob1, kb1, sm1, os1, ks1, BA1, _, hM1, hBo1, hMs1, hself ▸ hsput g iv RI hRI, rfl⟩, hDA2, rfl⟩))
  · skip
    refine Ops.val (opV_move rfl) rfl ?_
    refine Ops.val (opV_extract rfl rfl) rfl ?_
    refine Ops.val (opV_extract rfl rfl) rfl ?_
    refine Ops.val (opV_assign rfl) rfl ?_
    refine Ops.val (opV_assign rfl) rfl ?_
    refine Ops.nil ?_
    refine Ex.next ?_
    refine Cod.seq ?_
    refine Cod.seq ?_
    refine Cod.region ?_
    refine Ops.val (opV_move rfl) rfl ?_
    refine Ops.val (opV_neq rfl rfl (by first | exact decide_eq_true (by omega) | exact decide_eq_false (by omega) | rfl)) rfl ?_
    refine Ops.nil ?_
    refine Ex.next ?_
    refine Cod.condT rfl ?_
    refine Cod.seq ?_
    refine Cod.region ?_
    refine Ops.val (opV_move rfl) rfl ?_
    refine Ops.val (opV_assign rfl) rfl ?_
    refine Ops.val (opV_assign rfl) rfl ?_
    refine Ops.nil ?_
    refine Ex.next ?_
    refine Cod.ret ?_
    refine Ex.thenRet ?_
    refine Ex.thenRet ?_
    exact Ex.ret2 rfl rfl rfl (fun _ h => h.subs (by first | ((repeat (first | exact Sub.refl | exact Sub.nil | apply Sub.emp | (apply Sub.cons; focus ((repeat (first | exact Pick.hd | apply Pick.tl)); done)) | (apply Sub.con; focus ((repeat (first | exact Pick.hd | apply Pick.tl)); done)) | (apply Sub.app; focus ((repeat (first | exact Pick.hd | apply Pick.tl)); done)) | apply Sub.drop)); done) | ((repeat (first | rw [List.append_assoc] | rw [List.cons_append] | rw [List.nil_append] | rw [List.append_nil])); (repeat (first | exact Sub.refl | exact Sub.nil | apply Sub.emp | (apply Sub.cons; focus ((repeat (first | exact Pick.hd | apply Pick.tl)); done)) | (apply Sub.con; focus ((repeat (first | exact Pick.hd | apply Pick.tl)); done)) | (apply Sub.app; focus ((repeat (first | exact Pick.hd | apply Pick.tl)); done)) | apply Sub.drop)); done))) (.inr (.inr ⟨hNo, rfl, A1, DA1, hS1, hD1, rfl⟩))
end
end Go.Proofs.YteejmoldhbfdnaaGreatDoor.Bod4
