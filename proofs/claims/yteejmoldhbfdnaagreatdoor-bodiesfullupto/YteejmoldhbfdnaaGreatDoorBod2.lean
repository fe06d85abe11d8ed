/- Package bodies: a store, its small calls. -/
import Derived.Test.YteejmoldhbfdnaaGreatDoorBod
namespace Go.Proofs.YteejmoldhbfdnaaGreatDoor.Bod
open Go.W Go.RowKit
structure SegK where
  base : Str
  gen : Nat
  size : Nat
  ids : List Int
  stale : Bool
structure SK where
  bodies : List (Int × (Str × Int × Int))
  segs : List (Int × SegK)
  last : Int
  current : Int
def BodyP (v : Value) (b : Str × Int × Int) (B : Hp) : Prop :=
  ∃ bb dv R, v = .pointer (some ⟨bb, 0, none⟩) ∧ Row 5 1 dv b.1.length (bcells b.1) R ∧ B = (bb, .cells #[dv, .int .i64 b.2.1, .int .i64 b.2.2] 132) :: R
abbrev segB (sb lb : Nat) (iv : Value) (st : Bool) : Hp := [(sb, .cells #[.pointer (some ⟨lb, 0, none⟩), iv, .bool st] 138)]
def SegP (d : Nat) (v : Value) (g : SegK) (B : Hp) : Prop :=
  ∃ sb lb iv RI, v = .pointer (some ⟨sb, 0, none⟩) ∧ Row 3 1 iv g.ids.length (zcells g.ids) RI ∧ B = segB sb lb iv g.stale ++ (Wal.logB lb d g.base g.gen g.size ++ RI)
abbrev BodM (kb : List (Int × Value)) (bs : List (Int × (Str × Int × Int))) (BA : Hp) : Prop := MapH BodyP kb bs BA
abbrev SegM (d : Nat) (ks : List (Int × Value)) (ss : List (Int × SegK)) (GA : Hp) : Prop := MapH (SegP d) ks ss GA
abbrev bodB (bb : Nat) (dv : Value) (held seg : Int) : Hp := [(bb, .cells #[dv, .int .i64 held, .int .i64 seg] 132)]
theorem BodM.get {e : Ctx} {kb : List (Int × Value)} {bs : List (Int × (Str × Int × Int))} {BA : Hp} {k : Int} {v : Value} (h : BodM kb bs BA) (hk : lkp k kb = some v) :
    ∃ bb dv data held seg R BA', v = .pointer (some ⟨bb, 0, none⟩) ∧ lkp k bs = some (data, held, seg) ∧ Row 5 1 dv data.length (bcells data) R ∧
      (∀ w F, Owns e w (BA :: F) → Owns e w (bodB bb dv held seg :: R :: BA' :: F)) ∧
      (∀ dv' data' held' seg' R', Row 5 1 dv' data'.length (bcells data') R' → BodM kb (ins k (data', held', seg') bs) (bodB bb dv' held' seg' ++ (R' ++ BA'))) ∧
      BodM (del k kb) (del k bs) BA' ∧ (∀ x ∈ bodB bb dv held seg ++ R, x ∈ BA) := by
  obtain ⟨⟨data, held, seg⟩, B, BA', e1, ⟨bb, dv, R, rfl, h1, rfl⟩, hp, _, k2, k3⟩ := MapH.get h hk
  refine ⟨bb, dv, data, held, seg, R, BA', rfl, e1, h1, ?_, ?_, k3, fun x hx => hp.mem_iff.2 (List.mem_append.2 (.inl hx))⟩
  · intro w F ho
    refine ho.perm ?_
    simpa using hp.append_right F.flatten
  · intro dv' data' held' seg' R' h1'
    have := k2 (data', held', seg') _ ⟨bb, dv', R', rfl, h1', rfl⟩
    simpa using this
theorem SegM.get {e : Ctx} {d : Nat} {ks : List (Int × Value)} {ss : List (Int × SegK)} {GA : Hp} {k : Int} {v : Value} (h : SegM d ks ss GA) (hk : lkp k ks = some v) :
    ∃ sb lb iv g RI GA', v = .pointer (some ⟨sb, 0, none⟩) ∧ lkp k ss = some g ∧ Row 3 1 iv g.ids.length (zcells g.ids) RI ∧
      (∀ w F, Owns e w (GA :: F) → Owns e w (segB sb lb iv g.stale :: Wal.logB lb d g.base g.gen g.size :: RI :: GA' :: F)) ∧
      (∀ (g' : SegK) iv' RI', Row 3 1 iv' g'.ids.length (zcells g'.ids) RI' → SegM d ks (ins k g' ss) (segB sb lb iv' g'.stale ++ (Wal.logB lb d g'.base g'.gen g'.size ++ (RI' ++ GA')))) ∧
      SegM d (del k ks) (del k ss) GA' ∧ (∀ x ∈ segB sb lb iv g.stale ++ (Wal.logB lb d g.base g.gen g.size ++ RI), x ∈ GA) := by
  obtain ⟨g, B, GA', e1, ⟨sb, lb, iv, RI, rfl, h1, rfl⟩, hp, _, k2, k3⟩ := MapH.get h hk
  refine ⟨sb, lb, iv, g, RI, GA', rfl, e1, h1, ?_, ?_, k3, fun x hx => hp.mem_iff.2 (List.mem_append.2 (.inl hx))⟩
  · intro w F ho
    refine ho.perm ?_
    simpa using hp.append_right F.flatten
  · intro g' iv' RI' h1'
    have := k2 g' _ ⟨sb, lb, iv', RI', rfl, h1', rfl⟩
    simpa using this
def StoreA (s d : Nat) (S : SK) (A : Hp) : Prop :=
  ∃ mb ob kb sm os ks BA GA, MapO (κ := Int) kb ob ∧ BodM kb S.bodies BA ∧ MapO (κ := Int) ks os ∧ SegM d ks S.segs GA ∧
    A = (s, .cells #[.pointer (some ⟨d, 0, none⟩), .map (some mb), .map (some sm), .int .i64 S.last, .int .i64 S.current] 129) :: (mb, ob) :: (sm, os) :: (BA ++ GA)
theorem Owns.store {e : Ctx} {w : World} {x y z : Nat × Obj} {BA GA : Hp} {F : List Hp} (h : Owns e w ((x :: y :: z :: (BA ++ GA)) :: F)) : Owns e w ([x] :: [y] :: [z] :: BA :: GA :: F) := h.sub (by simp)
end Go.Proofs.YteejmoldhbfdnaaGreatDoor.Bod
namespace Go.Proofs.YteejmoldhbfdnaaGreatDoor.Bod2
open Go.W Go.RowKit Lib1 Oct OctR Seal Disk Disk2 Wal Num Wal2 Wal3 Bod
namespace Fx
theorem cal_61 : callable Tryz.prog 61 = true := by kernel_rfl
theorem cal_85 : callable Tryz.prog 85 = true := by kernel_rfl
theorem fld_129_1 : fieldOff Tryz.prog 129 1 = some 1 := by kernel_rfl
theorem fld_129_2 : fieldOff Tryz.prog 129 2 = some 2 := by kernel_rfl
theorem fld_132_0 : fieldOff Tryz.prog 132 0 = some 0 := by kernel_rfl
theorem fld_132_1 : fieldOff Tryz.prog 132 1 = some 1 := by kernel_rfl
theorem fld_132_2 : fieldOff Tryz.prog 132 2 = some 2 := by kernel_rfl
theorem fld_138_2 : fieldOff Tryz.prog 138 2 = some 2 := by kernel_rfl
theorem map_126 : mapInfo Tryz.prog 126 = some (.int .i64, (.pointer none)) := by kernel_rfl
theorem map_127 : mapInfo Tryz.prog 127 = some (.int .i64, (.pointer none)) := by kernel_rfl
theorem ptr_130 : ptrT Tryz.prog 130 = true := by kernel_rfl
theorem ptr_133 : ptrT Tryz.prog 133 = true := by kernel_rfl
theorem scal_126 : scalarB Tryz.prog 126 = true := by kernel_rfl
theorem scal_127 : scalarB Tryz.prog 127 = true := by kernel_rfl
theorem scal_29 : scalarB Tryz.prog 29 = true := by kernel_rfl
theorem scal_3 : scalarB Tryz.prog 3 = true := by kernel_rfl
theorem scal_4 : scalarB Tryz.prog 4 = true := by kernel_rfl
theorem sz1_3 : (Tryz.prog.info? 3).map (·.size) = some 1 := by kernel_rfl
theorem sz1_4 : (Tryz.prog.info? 4).map (·.size) = some 1 := by kernel_rfl

end Fx
section
variable {e : Ctx} {w : World} {As F G : List Hp} {A B : Hp} {s d : Nat} {S : SK} {id : Int} {data : Str} {held seg : Int}
theorem held_some (hk : lkp id S.bodies = some (data, held, seg)) (hw : Owns e w As) (hA : Has e As A) (hS : StoreA s d S A) :
    Calls Tryz.prog 58 #[.pointer (some ⟨s, 0, none⟩), .int .i64 id] w (Ret e fun u Bs => u = .int .i64 held ∧ Bs = As) := by
  obtain ⟨mb, ob, kb, sm, os, ks, BA, GA, hM, hBo, hMs, hSe, rfl⟩ := hS
  obtain ⟨bv, hkb⟩ : ∃ v, lkp id kb = some v := by
    cases hq : lkp id kb with
    | none => rw [(MapH.none_iff hBo).1 hq] at hk; cases hk
    | some v => exact ⟨v, rfl⟩
  obtain ⟨bb, dv, data', held', seg', R, BA', rfl, hk', hd, hown, hput, hdel, hin⟩ := BodM.get (e := e) hBo hkb
  rw [hk'] at hk
  cases hk
  refine enter Tryz.func58 rfl Tryz.ntmps58 hw rfl ?_
  refine Cod.seq ?_
  refine Cod.region ?_
  refine Ops.val (opV_assign rfl) rfl ?_
  refine Ops.nil ?_
  refine Ex.next ?_
  refine Cod.seq ?_
  refine Cod.seq ?_
  refine Cod.region ?_
  refine Ops.val (opV_move rfl) rfl ?_
  refine Ops.val (opV_nil rfl) rfl ?_
  refine Ops.val (opV_field Fx.fld_129_1 rfl) rfl ?_
  refine Ops.val (opV_load Fx.scal_126 rfl (cellOf hA (List.Mem.head _) rfl)) rfl ?_
  refine Ops.val (opV_move rfl) rfl ?_
  refine Ops.val (opV_lookup (κ := Int) Fx.map_126 rfl rfl hA (.tail _ (.head _)) hM) rfl ?_
  rw [hkb]
  refine Ops.val (opV_assign rfl) rfl ?_
  refine Ops.nil ?_
  refine Ex.next ?_
  refine Cod.seq ?_
  refine Cod.region ?_
  refine Ops.val (opV_move rfl) rfl ?_
  refine Ops.val (opV_ptrnnil Fx.ptr_130 rfl rfl rfl) rfl ?_
  refine Ops.nil ?_
  refine Ex.next ?_
  refine Cod.condT rfl ?_
  refine Cod.seq ?_
  refine Cod.region ?_
  refine Ops.val (opV_move rfl) rfl ?_
  refine Ops.val (opV_nil rfl) rfl ?_
  refine Ops.val (opV_field Fx.fld_132_1 rfl) rfl ?_
  refine Ops.val (opV_load Fx.scal_3 rfl (cellOf (i := 1) hA (.tail _ (.tail _ (.tail _ (List.mem_append.2 (.inl (hin _ (List.mem_append.2 (.inl (.head _))))))))) rfl)) rfl ?_
  refine Ops.val (opV_assign rfl) rfl ?_
  refine Ops.nil ?_
  refine Ex.next ?_
  refine Cod.ret ?_
  refine Ex.thenRet ?_
  exact Ex.ret1 rfl rfl (fun _ h => h.subs (by first | ((repeat (first | exact Sub.refl | exact Sub.nil | apply Sub.emp | (apply Sub.cons; focus ((repeat (first | exact Pick.hd | apply Pick.tl)); done)) | (apply Sub.con; focus ((repeat (first | exact Pick.hd | apply Pick.tl)); done)) | (apply Sub.app; focus ((repeat (first | exact Pick.hd | apply Pick.tl)); done)) | apply Sub.drop)); done) | ((repeat (first | rw [List.append_assoc] | rw [List.cons_append] | rw [List.nil_append] | rw [List.append_nil])); (repeat (first | exact Sub.refl | exact Sub.nil | apply Sub.emp | (apply Sub.cons; focus ((repeat (first | exact Pick.hd | apply Pick.tl)); done)) | (apply Sub.con; focus ((repeat (first | exact Pick.hd | apply Pick.tl)); done)) | (apply Sub.app; focus ((repeat (first | exact Pick.hd | apply Pick.tl)); done)) | apply Sub.drop)); done))) ⟨rfl, rfl⟩
theorem held_none (hk : lkp id S.bodies = none) (hw : Owns e w As) (hA : Has e As A) (hS : StoreA s d S A) :
    Calls Tryz.prog 58 #[.pointer (some ⟨s, 0, none⟩), .int .i64 id] w (Ret e fun u Bs => u = .int .i64 0 ∧ Bs = As) := by
  obtain ⟨mb, ob, kb, sm, os, ks, BA, GA, hM, hBo, hMs, hSe, rfl⟩ := hS
  have hkb := (MapH.none_iff hBo).2 hk
  refine enter Tryz.func58 rfl Tryz.ntmps58 hw rfl ?_
  refine Cod.seq ?_
  refine Cod.region ?_
  refine Ops.val (opV_assign rfl) rfl ?_
  refine Ops.nil ?_
  refine Ex.next ?_
  refine Cod.seq ?_
  refine Cod.seq ?_
  refine Cod.region ?_
  refine Ops.val (opV_move rfl) rfl ?_
  refine Ops.val (opV_nil rfl) rfl ?_
  refine Ops.val (opV_field Fx.fld_129_1 rfl) rfl ?_
  refine Ops.val (opV_load Fx.scal_126 rfl (cellOf hA (List.Mem.head _) rfl)) rfl ?_
  refine Ops.val (opV_move rfl) rfl ?_
  refine Ops.val (opV_lookup (κ := Int) Fx.map_126 rfl rfl hA (.tail _ (.head _)) hM) rfl ?_
  rw [hkb]
  refine Ops.val (opV_assign rfl) rfl ?_
  refine Ops.nil ?_
  refine Ex.next ?_
  refine Cod.seq ?_
  refine Cod.region ?_
  refine Ops.val (opV_move rfl) rfl ?_
  refine Ops.val (opV_ptrnnil Fx.ptr_130 rfl rfl rfl) rfl ?_
  refine Ops.nil ?_
  refine Ex.next ?_
  refine Cod.condF rfl ?_
  refine Cod.skip ?_
  refine Ex.next ?_
  refine Cod.seq ?_
  refine Cod.region ?_
  refine Ops.val (opV_assign rfl) rfl ?_
  refine Ops.nil ?_
  refine Ex.next ?_
  refine Cod.ret ?_
  exact Ex.ret1 rfl rfl (fun _ h => h.subs (by first | ((repeat (first | exact Sub.refl | exact Sub.nil | apply Sub.emp | (apply Sub.cons; focus ((repeat (first | exact Pick.hd | apply Pick.tl)); done)) | (apply Sub.con; focus ((repeat (first | exact Pick.hd | apply Pick.tl)); done)) | (apply Sub.app; focus ((repeat (first | exact Pick.hd | apply Pick.tl)); done)) | apply Sub.drop)); done) | ((repeat (first | rw [List.append_assoc] | rw [List.cons_append] | rw [List.nil_append] | rw [List.append_nil])); (repeat (first | exact Sub.refl | exact Sub.nil | apply Sub.emp | (apply Sub.cons; focus ((repeat (first | exact Pick.hd | apply Pick.tl)); done)) | (apply Sub.con; focus ((repeat (first | exact Pick.hd | apply Pick.tl)); done)) | (apply Sub.app; focus ((repeat (first | exact Pick.hd | apply Pick.tl)); done)) | apply Sub.drop)); done))) ⟨rfl, rfl⟩
theorem get_some (hk : lkp id S.bodies = some (data, held, seg)) (hl : data.length ≤ 1000000000) (hw : Owns e w As) (hA : Has e As A) (hS : StoreA s d S A) :
    Calls Tryz.prog 59 #[.pointer (some ⟨s, 0, none⟩), .int .i64 id] w (Ret e fun u Bs => ∃ v A', u = .tuple #[v, .bool true] ∧ Row 5 1 v data.length (bcells data) A' ∧ Bs = A' :: As) := by
  obtain ⟨mb, ob, kb, sm, os, ks, BA, GA, hM, hBo, hMs, hSe, rfl⟩ := hS
  obtain ⟨bv, hkb⟩ : ∃ v, lkp id kb = some v := by
    cases hq : lkp id kb with
    | none => rw [(MapH.none_iff hBo).1 hq] at hk; cases hk
    | some v => exact ⟨v, rfl⟩
  obtain ⟨bb, dv, data', held', seg', R, BA', rfl, hk', hd, hown, hput, hdel, hin⟩ := BodM.get (e := e) hBo hkb
  rw [hk'] at hk
  cases hk
  refine enter Tryz.func59 rfl Tryz.ntmps59 hw rfl ?_
  refine Cod.seq ?_
  refine Cod.region ?_
  refine Ops.val (opV_assign rfl) rfl ?_
  refine Ops.val (opV_assign rfl) rfl ?_
  refine Ops.nil ?_
  refine Ex.next ?_
  refine Cod.seq ?_
  refine Cod.region ?_
  refine Ops.val (opV_move rfl) rfl ?_
  refine Ops.val (opV_nil rfl) rfl ?_
  refine Ops.val (opV_field Fx.fld_129_1 rfl) rfl ?_
  refine Ops.val (opV_load Fx.scal_126 rfl (cellOf hA (List.Mem.head _) rfl)) rfl ?_
  refine Ops.val (opV_move rfl) rfl ?_
  refine Ops.val (opV_lookup (κ := Int) Fx.map_126 rfl rfl hA (.tail _ (.head _)) hM) rfl ?_
  rw [hkb]
  refine Ops.val (opV_assign rfl) rfl ?_
  refine Ops.nil ?_
  refine Ex.next ?_
  refine Cod.seq ?_
  refine Cod.seq ?_
  refine Cod.region ?_
  refine Ops.val (opV_move rfl) rfl ?_
  refine Ops.val (opV_ptrnil Fx.ptr_130 rfl rfl rfl) rfl ?_
  refine Ops.nil ?_
  refine Ex.next ?_
  refine Cod.condF rfl ?_
  refine Cod.skip ?_
  refine Ex.next ?_
  refine Cod.seq ?_
  refine Cod.region ?_
  refine Ops.val (opV_move rfl) rfl ?_
  refine Ops.val (opV_nil rfl) rfl ?_
  refine Ops.val (opV_field Fx.fld_132_0 rfl) rfl ?_
  refine Ops.val (opV_load Fx.scal_29 rfl (cellOf (i := 0) hA (.tail _ (.tail _ (.tail _ (List.mem_append.2 (.inl (hin _ (List.mem_append.2 (.inl (.head _))))))))) rfl)) rfl ?_
  refine Ops.call rfl (opC_call Fx.cal_61 rfl (fun w hw => clone_bytes hw (hd.sl.mono fun x hx => .tail _ (.tail _ (.tail _ (List.mem_append.2 (.inl (hin x (List.mem_append.2 (.inr hx)))))))) hA (bcells_one _) (by omega) (by omega))) rfl ?_
  rintro v19 _ ⟨A', hA', rfl⟩
  refine Ops.val (opV_assign rfl) rfl ?_
  refine Ops.val (opV_assign rfl) rfl ?_
  refine Ops.nil ?_
  refine Ex.next ?_
  refine Cod.ret ?_
  exact Ex.ret2 rfl rfl rfl (fun _ h => h.subs (by first | ((repeat (first | exact Sub.refl | exact Sub.nil | apply Sub.emp | (apply Sub.cons; focus ((repeat (first | exact Pick.hd | apply Pick.tl)); done)) | (apply Sub.con; focus ((repeat (first | exact Pick.hd | apply Pick.tl)); done)) | (apply Sub.app; focus ((repeat (first | exact Pick.hd | apply Pick.tl)); done)) | apply Sub.drop)); done) | ((repeat (first | rw [List.append_assoc] | rw [List.cons_append] | rw [List.nil_append] | rw [List.append_nil])); (repeat (first | exact Sub.refl | exact Sub.nil | apply Sub.emp | (apply Sub.cons; focus ((repeat (first | exact Pick.hd | apply Pick.tl)); done)) | (apply Sub.con; focus ((repeat (first | exact Pick.hd | apply Pick.tl)); done)) | (apply Sub.app; focus ((repeat (first | exact Pick.hd | apply Pick.tl)); done)) | apply Sub.drop)); done))) ⟨_, A', rfl, hA', rfl⟩
theorem get_none (hk : lkp id S.bodies = none) (hw : Owns e w As) (hA : Has e As A) (hS : StoreA s d S A) :
    Calls Tryz.prog 59 #[.pointer (some ⟨s, 0, none⟩), .int .i64 id] w (Ret e fun u Bs => u = .tuple #[.slice none 0 0, .bool false] ∧ Bs = As) := by
  obtain ⟨mb, ob, kb, sm, os, ks, BA, GA, hM, hBo, hMs, hSe, rfl⟩ := hS
  have hkb := (MapH.none_iff hBo).2 hk
  refine enter Tryz.func59 rfl Tryz.ntmps59 hw rfl ?_
  refine Cod.seq ?_
  refine Cod.region ?_
  refine Ops.val (opV_assign rfl) rfl ?_
  refine Ops.val (opV_assign rfl) rfl ?_
  refine Ops.nil ?_
  refine Ex.next ?_
  refine Cod.seq ?_
  refine Cod.region ?_
  refine Ops.val (opV_move rfl) rfl ?_
  refine Ops.val (opV_nil rfl) rfl ?_
  refine Ops.val (opV_field Fx.fld_129_1 rfl) rfl ?_
  refine Ops.val (opV_load Fx.scal_126 rfl (cellOf hA (List.Mem.head _) rfl)) rfl ?_
  refine Ops.val (opV_move rfl) rfl ?_
  refine Ops.val (opV_lookup (κ := Int) Fx.map_126 rfl rfl hA (.tail _ (.head _)) hM) rfl ?_
  rw [hkb]
  refine Ops.val (opV_assign rfl) rfl ?_
  refine Ops.nil ?_
  refine Ex.next ?_
  refine Cod.seq ?_
  refine Cod.seq ?_
  refine Cod.region ?_
  refine Ops.val (opV_move rfl) rfl ?_
  refine Ops.val (opV_ptrnil Fx.ptr_130 rfl rfl rfl) rfl ?_
  refine Ops.nil ?_
  refine Ex.next ?_
  refine Cod.condT rfl ?_
  refine Cod.seq ?_
  refine Cod.region ?_
  refine Ops.val (opV_assign rfl) rfl ?_
  refine Ops.val (opV_assign rfl) rfl ?_
  refine Ops.nil ?_
  refine Ex.next ?_
  refine Cod.ret ?_
  refine Ex.thenRet ?_
  exact Ex.ret2 rfl rfl rfl (fun _ h => h.subs (by first | ((repeat (first | exact Sub.refl | exact Sub.nil | apply Sub.emp | (apply Sub.cons; focus ((repeat (first | exact Pick.hd | apply Pick.tl)); done)) | (apply Sub.con; focus ((repeat (first | exact Pick.hd | apply Pick.tl)); done)) | (apply Sub.app; focus ((repeat (first | exact Pick.hd | apply Pick.tl)); done)) | apply Sub.drop)); done) | ((repeat (first | rw [List.append_assoc] | rw [List.cons_append] | rw [List.nil_append] | rw [List.append_nil])); (repeat (first | exact Sub.refl | exact Sub.nil | apply Sub.emp | (apply Sub.cons; focus ((repeat (first | exact Pick.hd | apply Pick.tl)); done)) | (apply Sub.con; focus ((repeat (first | exact Pick.hd | apply Pick.tl)); done)) | (apply Sub.app; focus ((repeat (first | exact Pick.hd | apply Pick.tl)); done)) | apply Sub.drop)); done))) ⟨rfl, rfl⟩
theorem hold_none (hk : lkp id S.bodies = none) (hw : Owns e w As) (hA : Has e As A) (hS : StoreA s d S A) :
    Calls Tryz.prog 34 #[.pointer (some ⟨s, 0, none⟩), .int .i64 id] w (Ret e fun u Bs => u = .int .i64 7 ∧ Bs = As) := by
  obtain ⟨mb, ob, kb, sm, os, ks, BA, GA, hM, hBo, hMs, hSe, rfl⟩ := hS
  have hkb := (MapH.none_iff hBo).2 hk
  refine enter Tryz.func34 rfl Tryz.ntmps34 hw rfl ?_
  refine Cod.seq ?_
  refine Cod.region ?_
  refine Ops.val (opV_assign rfl) rfl ?_
  refine Ops.nil ?_
  refine Ex.next ?_
  refine Cod.seq ?_
  refine Cod.region ?_
  refine Ops.val (opV_move rfl) rfl ?_
  refine Ops.val (opV_nil rfl) rfl ?_
  refine Ops.val (opV_field Fx.fld_129_1 rfl) rfl ?_
  refine Ops.val (opV_load Fx.scal_126 rfl (cellOf hA (List.Mem.head _) rfl)) rfl ?_
  refine Ops.val (opV_move rfl) rfl ?_
  refine Ops.val (opV_lookup (κ := Int) Fx.map_126 rfl rfl hA (.tail _ (.head _)) hM) rfl ?_
  rw [hkb]
  refine Ops.val (opV_assign rfl) rfl ?_
  refine Ops.nil ?_
  refine Ex.next ?_
  refine Cod.seq ?_
  refine Cod.seq ?_
  refine Cod.region ?_
  refine Ops.val (opV_move rfl) rfl ?_
  refine Ops.val (opV_ptrnil Fx.ptr_130 rfl rfl rfl) rfl ?_
  refine Ops.nil ?_
  refine Ex.next ?_
  refine Cod.condT rfl ?_
  refine Cod.seq ?_
  refine Cod.region ?_
  refine Ops.val (opV_assign rfl) rfl ?_
  refine Ops.nil ?_
  refine Ex.next ?_
  refine Cod.ret ?_
  refine Ex.thenRet ?_
  exact Ex.ret1 rfl rfl (fun _ h => h.subs (by first | ((repeat (first | exact Sub.refl | exact Sub.nil | apply Sub.emp | (apply Sub.cons; focus ((repeat (first | exact Pick.hd | apply Pick.tl)); done)) | (apply Sub.con; focus ((repeat (first | exact Pick.hd | apply Pick.tl)); done)) | (apply Sub.app; focus ((repeat (first | exact Pick.hd | apply Pick.tl)); done)) | apply Sub.drop)); done) | ((repeat (first | rw [List.append_assoc] | rw [List.cons_append] | rw [List.nil_append] | rw [List.append_nil])); (repeat (first | exact Sub.refl | exact Sub.nil | apply Sub.emp | (apply Sub.cons; focus ((repeat (first | exact Pick.hd | apply Pick.tl)); done)) | (apply Sub.con; focus ((repeat (first | exact Pick.hd | apply Pick.tl)); done)) | (apply Sub.app; focus ((repeat (first | exact Pick.hd | apply Pick.tl)); done)) | apply Sub.drop)); done))) ⟨rfl, rfl⟩
theorem hold_some (hk : lkp id S.bodies = some (data, held, seg)) (hh : 0 ≤ held ∧ held ≤ 1000000000000) (hw : Owns e w As) (hp : Pick As A F) (hS : StoreA s d S A) :
    Calls Tryz.prog 34 #[.pointer (some ⟨s, 0, none⟩), .int .i64 id] w (Ret e fun u Bs => u = .int .i64 0 ∧ ∃ A', StoreA s d { S with bodies := ins id (data, held + 1, seg) S.bodies } A' ∧ Bs = A' :: F) := by
  obtain ⟨mb, ob, kb, sm, os, ks, BA, GA, hM, hBo, hMs, hSe, rfl⟩ := hS
  obtain ⟨bv, hkb⟩ : ∃ v, lkp id kb = some v := by
    cases hq : lkp id kb with
    | none => rw [(MapH.none_iff hBo).1 hq] at hk; cases hk
    | some v => exact ⟨v, rfl⟩
  obtain ⟨bb, dv, data', held', seg', R, BA', rfl, hk', hd, hown, hput, hdel, hin⟩ := BodM.get (e := e) hBo hkb
  rw [hk'] at hk
  cases hk
  refine enter Tryz.func34 rfl Tryz.ntmps34 (hown _ _ ((Owns.store (hw.pick hp)).pick (.tl (.tl (.tl .hd))))) rfl ?_
  refine Cod.seq ?_
  refine Cod.region ?_
  refine Ops.val (opV_assign rfl) rfl ?_
  refine Ops.nil ?_
  refine Ex.next ?_
  refine Cod.seq ?_
  refine Cod.region ?_
  refine Ops.val (opV_move rfl) rfl ?_
  refine Ops.val (opV_nil rfl) rfl ?_
  refine Ops.val (opV_field Fx.fld_129_1 rfl) rfl ?_
  refine Ops.val (opV_load Fx.scal_126 rfl (by repeat (first | exact Cell.one rfl | assumption | apply Cell.tl))) rfl ?_
  refine Ops.val (opV_move rfl) rfl ?_
  refine Ops.val (opV_lookup (κ := Int) Fx.map_126 rfl rfl (.mem (by repeat (first | exact List.Mem.head _ | apply List.Mem.tail))) (List.Mem.head _) hM) rfl ?_
  rw [hkb]
  refine Ops.val (opV_assign rfl) rfl ?_
  refine Ops.nil ?_
  refine Ex.next ?_
  refine Cod.seq ?_
  refine Cod.seq ?_
  refine Cod.region ?_
  refine Ops.val (opV_move rfl) rfl ?_
  refine Ops.val (opV_ptrnil Fx.ptr_130 rfl rfl rfl) rfl ?_
  refine Ops.nil ?_
  refine Ex.next ?_
  refine Cod.condF rfl ?_
  refine Cod.skip ?_
  refine Ex.next ?_
  refine Cod.seq ?_
  refine Cod.region ?_
  refine Ops.val (opV_move rfl) rfl ?_
  refine Ops.val (opV_nil rfl) rfl ?_
  refine Ops.val (opV_field Fx.fld_132_1 rfl) rfl ?_
  refine Ops.val (opV_load Fx.scal_3 rfl (by repeat (first | exact Cell.one rfl | assumption | apply Cell.tl))) rfl ?_
  refine Ops.val (opV_add64 rfl rfl (by omega)) rfl ?_
  refine Ops.val (opV_nil rfl) rfl ?_
  refine Ops.val (opV_field Fx.fld_132_1 rfl) rfl ?_
  refine Ops.st rfl (opS_store Fx.scal_3 Fx.sz1_3 rfl rfl (by first | rfl | assumption | exact Row.one (by assumption) | exact Sl.one (by assumption)) rfl (by repeat (first | exact Upd.hd | apply Upd.tl)) (by repeat (first | exact LSet.hd | apply LSet.tl))) ?_
  refine Ops.nil ?_
  refine Ex.next ?_
  refine Cod.seq ?_
  refine Cod.region ?_
  refine Ops.val (opV_assign rfl) rfl ?_
  refine Ops.nil ?_
  refine Ex.next ?_
  refine Cod.ret ?_
  exact Ex.ret1 rfl rfl (fun _ h => h.subs (by first | ((repeat (first | exact Sub.refl | exact Sub.nil | apply Sub.emp | (apply Sub.cons; focus ((repeat (first | exact Pick.hd | apply Pick.tl)); done)) | (apply Sub.con; focus ((repeat (first | exact Pick.hd | apply Pick.tl)); done)) | (apply Sub.app; focus ((repeat (first | exact Pick.hd | apply Pick.tl)); done)) | apply Sub.drop)); done) | ((repeat (first | rw [List.append_assoc] | rw [List.cons_append] | rw [List.nil_append] | rw [List.append_nil])); (repeat (first | exact Sub.refl | exact Sub.nil | apply Sub.emp | (apply Sub.cons; focus ((repeat (first | exact Pick.hd | apply Pick.tl)); done)) | (apply Sub.con; focus ((repeat (first | exact Pick.hd | apply Pick.tl)); done)) | (apply Sub.app; focus ((repeat (first | exact Pick.hd | apply Pick.tl)); done)) | apply Sub.drop)); done))) ⟨rfl, _, ⟨mb, ob, kb, sm, os, ks, _, GA, hM, hput dv data (held + 1) seg R hd, hMs, hSe, rfl⟩, rfl⟩
theorem release_none (hk : lkp id S.bodies = none) (hw : Owns e w As) (hA : Has e As A) (hS : StoreA s d S A) :
    Calls Tryz.prog 35 #[.pointer (some ⟨s, 0, none⟩), .int .i64 id] w (Ret e fun u Bs => u = .int .i64 7 ∧ Bs = As) := by
  obtain ⟨mb, ob, kb, sm, os, ks, BA, GA, hM, hBo, hMs, hSe, rfl⟩ := hS
  have hkb := (MapH.none_iff hBo).2 hk
  refine enter Tryz.func35 rfl Tryz.ntmps35 hw rfl ?_
  refine Cod.seq ?_
  refine Cod.region ?_
  refine Ops.val (opV_assign rfl) rfl ?_
  refine Ops.nil ?_
  refine Ex.next ?_
  refine Cod.seq ?_
  refine Cod.region ?_
  refine Ops.val (opV_move rfl) rfl ?_
  refine Ops.val (opV_nil rfl) rfl ?_
  refine Ops.val (opV_field Fx.fld_129_1 rfl) rfl ?_
  refine Ops.val (opV_load Fx.scal_126 rfl (cellOf hA (List.Mem.head _) rfl)) rfl ?_
  refine Ops.val (opV_move rfl) rfl ?_
  refine Ops.val (opV_lookup (κ := Int) Fx.map_126 rfl rfl hA (.tail _ (.head _)) hM) rfl ?_
  rw [hkb]
  refine Ops.val (opV_assign rfl) rfl ?_
  refine Ops.nil ?_
  refine Ex.next ?_
  refine Cod.seq ?_
  refine Cod.seq ?_
  refine Cod.region ?_
  refine Ops.val (opV_move rfl) rfl ?_
  refine Ops.val (opV_ptrnil Fx.ptr_130 rfl rfl rfl) rfl ?_
  refine Ops.nil ?_
  refine Ex.next ?_
  refine Cod.condT rfl ?_
  refine Cod.seq ?_
  refine Cod.region ?_
  refine Ops.val (opV_assign rfl) rfl ?_
  refine Ops.nil ?_
  refine Ex.next ?_
  refine Cod.ret ?_
  refine Ex.thenRet ?_
  exact Ex.ret1 rfl rfl (fun _ h => h.subs (by first | ((repeat (first | exact Sub.refl | exact Sub.nil | apply Sub.emp | (apply Sub.cons; focus ((repeat (first | exact Pick.hd | apply Pick.tl)); done)) | (apply Sub.con; focus ((repeat (first | exact Pick.hd | apply Pick.tl)); done)) | (apply Sub.app; focus ((repeat (first | exact Pick.hd | apply Pick.tl)); done)) | apply Sub.drop)); done) | ((repeat (first | rw [List.append_assoc] | rw [List.cons_append] | rw [List.nil_append] | rw [List.append_nil])); (repeat (first | exact Sub.refl | exact Sub.nil | apply Sub.emp | (apply Sub.cons; focus ((repeat (first | exact Pick.hd | apply Pick.tl)); done)) | (apply Sub.con; focus ((repeat (first | exact Pick.hd | apply Pick.tl)); done)) | (apply Sub.app; focus ((repeat (first | exact Pick.hd | apply Pick.tl)); done)) | apply Sub.drop)); done))) ⟨rfl, rfl⟩
/-- A body goes; its segment is stale. -/
def _root_.Go.Proofs.YteejmoldhbfdnaaGreatDoor.Bod.SK.gone (S : SK) (id : Int) : SK :=
  match lkp id S.bodies with
  | some (_, _, seg) => { S with bodies := del id S.bodies, segs := match lkp seg S.segs with | some g => ins seg { g with stale := true } S.segs | none => S.segs }
  | none => S
theorem gone_spec (hk : lkp id S.bodies = some (data, held, seg)) (hw : Owns e w As) (hp : Pick As A F) (hS : StoreA s d S A) :
    Calls Tryz.prog 85 #[.pointer (some ⟨s, 0, none⟩), .int .i64 id] w (Ret e fun u Bs => u = .tuple #[] ∧ ∃ A', StoreA s d (S.gone id) A' ∧ Bs = A' :: F) := by
  obtain ⟨mb, ob, kb, sm, os, ks, BA, GA, hM, hBo, hMs, hSe, rfl⟩ := hS
  obtain ⟨bv, hkb⟩ : ∃ v, lkp id kb = some v := by
    cases hq : lkp id kb with
    | none => rw [(MapH.none_iff hBo).1 hq] at hk; cases hk
    | some v => exact ⟨v, rfl⟩
  obtain ⟨bb, dv, data', held', seg', R, BA', rfl, hk', hd, hown, hput, hdel, hin⟩ := BodM.get (e := e) hBo hkb
  rw [hk'] at hk
  cases hk
  refine enter Tryz.func85 rfl Tryz.ntmps85 (hown _ _ ((Owns.store (hw.pick hp)).pick (.tl (.tl (.tl .hd))))) rfl ?_
  refine Cod.seq ?_
  refine Cod.seq ?_
  refine Cod.draw0 [3, 7, 9, 12, 13] [0, 1, 2, 4, 5, 6, 8, 10, 11, 14] [0, 1, 2, 3, 4, 5, 6, 7, 8, 9, 10, 11, 12, 13, 14] M.mixed (by kernel_rfl) ?_
  refine AnyJ.valU rfl rfl rfl (opV_move rfl) rfl (fun _ _ _ h => h.2.elim) ?_
  refine AnyJ.valU rfl rfl rfl (opV_nil rfl) rfl (fun _ _ _ h => h.2.elim) ?_
  refine AnyJ.valU rfl rfl rfl (opV_field Fx.fld_129_2 rfl) rfl (fun _ _ _ h => h.2.elim) ?_
  refine AnyJ.val rfl rfl (opV_load Fx.scal_127 rfl (by repeat (first | exact Cell.one rfl | assumption | apply Cell.tl))) rfl (fun _ _ _ h => h.2.elim) (fun _ h => h) ?_
  refine AnyJ.valU rfl rfl rfl (opV_move rfl) rfl (fun _ _ _ h => h.2.elim) ?_
  refine AnyJ.valU rfl rfl rfl (opV_nil rfl) rfl (fun _ _ _ h => h.2.elim) ?_
  refine AnyJ.valU rfl rfl rfl (opV_field Fx.fld_129_1 rfl) rfl (fun _ _ _ h => h.2.elim) ?_
  refine AnyJ.val rfl rfl (opV_load Fx.scal_126 rfl (by repeat (first | exact Cell.one rfl | assumption | apply Cell.tl))) rfl (fun _ _ _ h => h.2.elim) (fun _ h => h) ?_
  refine AnyJ.valU rfl rfl rfl (opV_move rfl) rfl (fun _ _ _ h => h.2.elim) ?_
  refine AnyJ.val rfl rfl (opV_lookup (κ := Int) Fx.map_126 rfl rfl (.mem (by repeat (first | exact List.Mem.head _ | apply List.Mem.tail))) (List.Mem.head _) hM) rfl (fun _ _ _ h => h.2.elim) (fun _ h => h) ?_
  rw [hkb]
  refine AnyJ.valU rfl rfl rfl (opV_nil rfl) rfl (fun _ _ _ h => h.2.elim) ?_
  refine AnyJ.valU rfl rfl rfl (opV_field Fx.fld_132_2 rfl) rfl (fun _ _ _ h => h.2.elim) ?_
  refine AnyJ.val rfl rfl (opV_load Fx.scal_3 rfl (by repeat (first | exact Cell.one rfl | assumption | apply Cell.tl))) rfl (fun _ _ _ h => h.2.elim) (fun _ h => h) ?_
  refine AnyJ.val rfl rfl (opV_lookup (κ := Int) Fx.map_127 rfl rfl (.mem (by repeat (first | exact List.Mem.head _ | apply List.Mem.tail))) (List.Mem.head _) hMs) rfl (fun _ _ _ h => h.2.elim) (fun _ h => h) ?_
  refine AnyJ.valU rfl rfl rfl (opV_assign rfl) rfl (fun _ _ _ h => h.2.elim) ?_
  refine AnyJ.nil ?_
  refine Ex.next ?_
  skip
  rcases hq : lkp seg ks with _ | sv
  · skip
    refine Cod.seq ?_
    refine Cod.region ?_
    refine Ops.val (opV_move rfl) rfl ?_
    refine Ops.val (opV_ptrnnil Fx.ptr_133 rfl rfl rfl) rfl ?_
    refine Ops.nil ?_
    refine Ex.next ?_
    refine Cod.condF rfl ?_
    refine Cod.skip ?_
    refine Ex.next ?_
    refine Cod.region ?_
    refine Ops.val (opV_move rfl) rfl ?_
    refine Ops.val (opV_nil rfl) rfl ?_
    refine Ops.val (opV_field Fx.fld_129_1 rfl) rfl ?_
    refine Ops.val (opV_load Fx.scal_126 rfl (by repeat (first | exact Cell.one rfl | assumption | apply Cell.tl))) rfl ?_
    refine Ops.val (opV_move rfl) rfl ?_
    refine Ops.effN rfl (opE_delete (κ := Int) Fx.map_126 rfl rfl (by repeat (first | exact Pick.hd | apply Pick.tl)) hM ) ?_
    rintro _ _ ⟨ob', hM', rfl⟩
    have hss := (MapH.none_iff hSe).1 hq
    have hg : S.gone id = { S with bodies := del id S.bodies } := by simp only [SK.gone, hk', hss]
    rw [hg]
    refine Ops.nil ?_
    exact Ex.end0 rfl (fun _ h => h.subs (by first | ((repeat (first | exact Sub.refl | exact Sub.nil | apply Sub.emp | (apply Sub.cons; focus ((repeat (first | exact Pick.hd | apply Pick.tl)); done)) | (apply Sub.con; focus ((repeat (first | exact Pick.hd | apply Pick.tl)); done)) | (apply Sub.app; focus ((repeat (first | exact Pick.hd | apply Pick.tl)); done)) | apply Sub.drop)); done) | ((repeat (first | rw [List.append_assoc] | rw [List.cons_append] | rw [List.nil_append] | rw [List.append_nil])); (repeat (first | exact Sub.refl | exact Sub.nil | apply Sub.emp | (apply Sub.cons; focus ((repeat (first | exact Pick.hd | apply Pick.tl)); done)) | (apply Sub.con; focus ((repeat (first | exact Pick.hd | apply Pick.tl)); done)) | (apply Sub.app; focus ((repeat (first | exact Pick.hd | apply Pick.tl)); done)) | apply Sub.drop)); done))) ⟨rfl, _, ⟨mb, ob', _, sm, os, ks, _, GA, hM', hdel, hMs, hSe, rfl⟩, rfl⟩
  · skip
    obtain ⟨sb, lb, iv, g, RI, GA', rfl, hsk, hRI, hsown, hsput, _⟩ := SegM.get (e := e) hSe hq
    refine Cod.seq ?_
    refine Cod.region ?_
    refine Ops.val (opV_move rfl) rfl ?_
    refine Ops.val (opV_ptrnnil Fx.ptr_133 rfl rfl rfl) rfl ?_
    refine Ops.nil ?_
    refine Ex.next ?_
    refine Cod.condT rfl ?_
    refine Cod.heap (fun _ h => hsown _ _ (h.pick (A := GA) (by repeat (first | exact Pick.hd | apply Pick.tl)))) ?_
    refine Cod.region ?_
    refine Ops.val (opV_move rfl) rfl ?_
    refine Ops.val (opV_nil rfl) rfl ?_
    refine Ops.val (opV_field Fx.fld_138_2 rfl) rfl ?_
    refine Ops.st rfl (opS_store Fx.scal_4 Fx.sz1_4 rfl rfl (by first | rfl | assumption | exact Row.one (by assumption) | exact Sl.one (by assumption)) rfl (by repeat (first | exact Upd.hd | apply Upd.tl)) (by repeat (first | exact LSet.hd | apply LSet.tl))) ?_
    refine Ops.nil ?_
    refine Ex.next ?_
    refine Cod.region ?_
    refine Ops.val (opV_move rfl) rfl ?_
    refine Ops.val (opV_nil rfl) rfl ?_
    refine Ops.val (opV_field Fx.fld_129_1 rfl) rfl ?_
    refine Ops.val (opV_load Fx.scal_126 rfl (by repeat (first | exact Cell.one rfl | assumption | apply Cell.tl))) rfl ?_
    refine Ops.val (opV_move rfl) rfl ?_
    refine Ops.effN rfl (opE_delete (κ := Int) Fx.map_126 rfl rfl (by repeat (first | exact Pick.hd | apply Pick.tl)) hM ) ?_
    rintro _ _ ⟨ob', hM', rfl⟩
    have hg : S.gone id = { S with bodies := del id S.bodies, segs := ins seg { g with stale := true } S.segs } := by simp only [SK.gone, hk', hsk]
    rw [hg]
    refine Ops.nil ?_
    exact Ex.end0 rfl (fun _ h => h.subs (by first | ((repeat (first | exact Sub.refl | exact Sub.nil | apply Sub.emp | (apply Sub.cons; focus ((repeat (first | exact Pick.hd | apply Pick.tl)); done)) | (apply Sub.con; focus ((repeat (first | exact Pick.hd | apply Pick.tl)); done)) | (apply Sub.app; focus ((repeat (first | exact Pick.hd | apply Pick.tl)); done)) | apply Sub.drop)); done) | ((repeat (first | rw [List.append_assoc] | rw [List.cons_append] | rw [List.nil_append] | rw [List.append_nil])); (repeat (first | exact Sub.refl | exact Sub.nil | apply Sub.emp | (apply Sub.cons; focus ((repeat (first | exact Pick.hd | apply Pick.tl)); done)) | (apply Sub.con; focus ((repeat (first | exact Pick.hd | apply Pick.tl)); done)) | (apply Sub.app; focus ((repeat (first | exact Pick.hd | apply Pick.tl)); done)) | apply Sub.drop)); done))) ⟨rfl, _, ⟨mb, ob', _, sm, os, ks, _, _, hM', hdel, hMs, hsput { g with stale := true } iv RI hRI, rfl⟩, rfl⟩
theorem release_keep (hk : lkp id S.bodies = some (data, held, seg)) (hh : 0 ≤ held ∧ held ≤ 1000000000000) (h1 : held ≠ 1) (hw : Owns e w As) (hp : Pick As A F) (hS : StoreA s d S A) :
    Calls Tryz.prog 35 #[.pointer (some ⟨s, 0, none⟩), .int .i64 id] w (Ret e fun u Bs => u = .int .i64 0 ∧ ∃ A', StoreA s d { S with bodies := ins id (data, held - 1, seg) S.bodies } A' ∧ Bs = A' :: F) := by
  obtain ⟨mb, ob, kb, sm, os, ks, BA, GA, hM, hBo, hMs, hSe, rfl⟩ := hS
  obtain ⟨bv, hkb⟩ : ∃ v, lkp id kb = some v := by
    cases hq : lkp id kb with
    | none => rw [(MapH.none_iff hBo).1 hq] at hk; cases hk
    | some v => exact ⟨v, rfl⟩
  obtain ⟨bb, dv, data', held', seg', R, BA', rfl, hk', hd, hown, hput, hdel, hin⟩ := BodM.get (e := e) hBo hkb
  rw [hk'] at hk
  cases hk
  refine enter Tryz.func35 rfl Tryz.ntmps35 (hown _ _ ((Owns.store (hw.pick hp)).pick (.tl (.tl (.tl .hd))))) rfl ?_
  refine Cod.seq ?_
  refine Cod.region ?_
  refine Ops.val (opV_assign rfl) rfl ?_
  refine Ops.nil ?_
  refine Ex.next ?_
  refine Cod.seq ?_
  refine Cod.region ?_
  refine Ops.val (opV_move rfl) rfl ?_
  refine Ops.val (opV_nil rfl) rfl ?_
  refine Ops.val (opV_field Fx.fld_129_1 rfl) rfl ?_
  refine Ops.val (opV_load Fx.scal_126 rfl (by repeat (first | exact Cell.one rfl | assumption | apply Cell.tl))) rfl ?_
  refine Ops.val (opV_move rfl) rfl ?_
  refine Ops.val (opV_lookup (κ := Int) Fx.map_126 rfl rfl (.mem (by repeat (first | exact List.Mem.head _ | apply List.Mem.tail))) (List.Mem.head _) hM) rfl ?_
  rw [hkb]
  refine Ops.val (opV_assign rfl) rfl ?_
  refine Ops.nil ?_
  refine Ex.next ?_
  refine Cod.seq ?_
  refine Cod.seq ?_
  refine Cod.region ?_
  refine Ops.val (opV_move rfl) rfl ?_
  refine Ops.val (opV_ptrnil Fx.ptr_130 rfl rfl rfl) rfl ?_
  refine Ops.nil ?_
  refine Ex.next ?_
  refine Cod.condF rfl ?_
  refine Cod.skip ?_
  refine Ex.next ?_
  refine Cod.seq ?_
  refine Cod.seq ?_
  refine Cod.region ?_
  refine Ops.val (opV_move rfl) rfl ?_
  refine Ops.val (opV_nil rfl) rfl ?_
  refine Ops.val (opV_field Fx.fld_132_1 rfl) rfl ?_
  refine Ops.val (opV_load Fx.scal_3 rfl (by repeat (first | exact Cell.one rfl | assumption | apply Cell.tl))) rfl ?_
  refine Ops.val (opV_sub64 rfl rfl (by omega)) rfl ?_
  refine Ops.val (opV_nil rfl) rfl ?_
  refine Ops.val (opV_field Fx.fld_132_1 rfl) rfl ?_
  refine Ops.st rfl (opS_store Fx.scal_3 Fx.sz1_3 rfl rfl (by first | rfl | assumption | exact Row.one (by assumption) | exact Sl.one (by assumption)) rfl (by repeat (first | exact Upd.hd | apply Upd.tl)) (by repeat (first | exact LSet.hd | apply LSet.tl))) ?_
  refine Ops.nil ?_
  refine Ex.next ?_
  refine Cod.seq ?_
  refine Cod.region ?_
  refine Ops.val (opV_move rfl) rfl ?_
  refine Ops.val (opV_nil rfl) rfl ?_
  refine Ops.val (opV_field Fx.fld_132_1 rfl) rfl ?_
  refine Ops.val (opV_load Fx.scal_3 rfl (by repeat (first | exact Cell.one rfl | assumption | apply Cell.tl))) rfl ?_
  refine Ops.val (opV_eql rfl rfl (by first | exact decide_eq_true (by omega) | exact decide_eq_false (by omega) | rfl)) rfl ?_
  refine Ops.nil ?_
  refine Ex.next ?_
  refine Cod.condF rfl ?_
  refine Cod.skip ?_
  refine Ex.next ?_
  refine Cod.seq ?_
  refine Cod.region ?_
  refine Ops.val (opV_assign rfl) rfl ?_
  refine Ops.nil ?_
  refine Ex.next ?_
  refine Cod.ret ?_
  exact Ex.ret1 rfl rfl (fun _ h => h.subs (by first | ((repeat (first | exact Sub.refl | exact Sub.nil | apply Sub.emp | (apply Sub.cons; focus ((repeat (first | exact Pick.hd | apply Pick.tl)); done)) | (apply Sub.con; focus ((repeat (first | exact Pick.hd | apply Pick.tl)); done)) | (apply Sub.app; focus ((repeat (first | exact Pick.hd | apply Pick.tl)); done)) | apply Sub.drop)); done) | ((repeat (first | rw [List.append_assoc] | rw [List.cons_append] | rw [List.nil_append] | rw [List.append_nil])); (repeat (first | exact Sub.refl | exact Sub.nil | apply Sub.emp | (apply Sub.cons; focus ((repeat (first | exact Pick.hd | apply Pick.tl)); done)) | (apply Sub.con; focus ((repeat (first | exact Pick.hd | apply Pick.tl)); done)) | (apply Sub.app; focus ((repeat (first | exact Pick.hd | apply Pick.tl)); done)) | apply Sub.drop)); done))) ⟨rfl, _, ⟨mb, ob, kb, sm, os, ks, _, GA, hM, hput dv data (held - 1) seg R hd, hMs, hSe, rfl⟩, rfl⟩
theorem release_last (hk : lkp id S.bodies = some (data, 1, seg)) (hw : Owns e w As) (hp : Pick As A F) (hS : StoreA s d S A) :
    Calls Tryz.prog 35 #[.pointer (some ⟨s, 0, none⟩), .int .i64 id] w (Ret e fun u Bs => u = .int .i64 0 ∧ ∃ A', StoreA s d (({ S with bodies := ins id (data, 0, seg) S.bodies } : SK).gone id) A' ∧ Bs = A' :: F) := by
  obtain ⟨mb, ob, kb, sm, os, ks, BA, GA, hM, hBo, hMs, hSe, rfl⟩ := hS
  obtain ⟨bv, hkb⟩ : ∃ v, lkp id kb = some v := by
    cases hq : lkp id kb with
    | none => rw [(MapH.none_iff hBo).1 hq] at hk; cases hk
    | some v => exact ⟨v, rfl⟩
  obtain ⟨bb, dv, data', held', seg', R, BA', rfl, hk', hd, hown, hput, hdel, hin⟩ := BodM.get (e := e) hBo hkb
  rw [hk'] at hk
  cases hk
  refine enter Tryz.func35 rfl Tryz.ntmps35 (hown _ _ ((Owns.store (hw.pick hp)).pick (.tl (.tl (.tl .hd))))) rfl ?_
  refine Cod.seq ?_
  refine Cod.region ?_
  refine Ops.val (opV_assign rfl) rfl ?_
  refine Ops.nil ?_
  refine Ex.next ?_
  refine Cod.seq ?_
  refine Cod.region ?_
  refine Ops.val (opV_move rfl) rfl ?_
  refine Ops.val (opV_nil rfl) rfl ?_
  refine Ops.val (opV_field Fx.fld_129_1 rfl) rfl ?_
  refine Ops.val (opV_load Fx.scal_126 rfl (by repeat (first | exact Cell.one rfl | assumption | apply Cell.tl))) rfl ?_
  refine Ops.val (opV_move rfl) rfl ?_
  refine Ops.val (opV_lookup (κ := Int) Fx.map_126 rfl rfl (.mem (by repeat (first | exact List.Mem.head _ | apply List.Mem.tail))) (List.Mem.head _) hM) rfl ?_
  rw [hkb]
  refine Ops.val (opV_assign rfl) rfl ?_
  refine Ops.nil ?_
  refine Ex.next ?_
  refine Cod.seq ?_
  refine Cod.seq ?_
  refine Cod.region ?_
  refine Ops.val (opV_move rfl) rfl ?_
  refine Ops.val (opV_ptrnil Fx.ptr_130 rfl rfl rfl) rfl ?_
  refine Ops.nil ?_
  refine Ex.next ?_
  refine Cod.condF rfl ?_
  refine Cod.skip ?_
  refine Ex.next ?_
  refine Cod.seq ?_
  refine Cod.seq ?_
  refine Cod.region ?_
  refine Ops.val (opV_move rfl) rfl ?_
  refine Ops.val (opV_nil rfl) rfl ?_
  refine Ops.val (opV_field Fx.fld_132_1 rfl) rfl ?_
  refine Ops.val (opV_load Fx.scal_3 rfl (by repeat (first | exact Cell.one rfl | assumption | apply Cell.tl))) rfl ?_
  refine Ops.val (opV_sub64 rfl rfl (by omega)) rfl ?_
  refine Ops.val (opV_nil rfl) rfl ?_
  refine Ops.val (opV_field Fx.fld_132_1 rfl) rfl ?_
  refine Ops.st rfl (opS_store Fx.scal_3 Fx.sz1_3 rfl rfl (by first | rfl | assumption | exact Row.one (by assumption) | exact Sl.one (by assumption)) rfl (by repeat (first | exact Upd.hd | apply Upd.tl)) (by repeat (first | exact LSet.hd | apply LSet.tl))) ?_
  refine Ops.nil ?_
  refine Ex.next ?_
  refine Cod.seq ?_
  refine Cod.region ?_
  refine Ops.val (opV_move rfl) rfl ?_
  refine Ops.val (opV_nil rfl) rfl ?_
  refine Ops.val (opV_field Fx.fld_132_1 rfl) rfl ?_
  refine Ops.val (opV_load Fx.scal_3 rfl (by repeat (first | exact Cell.one rfl | assumption | apply Cell.tl))) rfl ?_
  refine Ops.val (opV_eql rfl rfl (by first | exact decide_eq_true (by omega) | exact decide_eq_false (by omega) | rfl)) rfl ?_
  refine Ops.nil ?_
  refine Ex.next ?_
  refine Cod.condT rfl ?_
  refine Cod.heap (Bs := ((s, .cells #[.pointer (some ⟨d, 0, none⟩), .map (some mb), .map (some sm), .int .i64 S.last, .int .i64 S.current] 129) :: (mb, ob) :: (sm, os) :: ((bodB bb dv 0 seg ++ (R ++ BA')) ++ GA)) :: F) (fun _ h => h.subs (by first | ((repeat (first | exact Sub.refl | exact Sub.nil | apply Sub.emp | (apply Sub.cons; focus ((repeat (first | exact Pick.hd | apply Pick.tl)); done)) | (apply Sub.con; focus ((repeat (first | exact Pick.hd | apply Pick.tl)); done)) | (apply Sub.app; focus ((repeat (first | exact Pick.hd | apply Pick.tl)); done)) | apply Sub.drop)); done) | ((repeat (first | rw [List.append_assoc] | rw [List.cons_append] | rw [List.nil_append] | rw [List.append_nil])); (repeat (first | exact Sub.refl | exact Sub.nil | apply Sub.emp | (apply Sub.cons; focus ((repeat (first | exact Pick.hd | apply Pick.tl)); done)) | (apply Sub.con; focus ((repeat (first | exact Pick.hd | apply Pick.tl)); done)) | (apply Sub.app; focus ((repeat (first | exact Pick.hd | apply Pick.tl)); done)) | apply Sub.drop)); done))) ?_
  refine Cod.region ?_
  refine Ops.val (opV_move rfl) rfl ?_
  refine Ops.val (opV_move rfl) rfl ?_
  refine Ops.call rfl (opC_call Fx.cal_85 rfl (fun w hw => gone_spec (S := { S with bodies := ins id (data, 0, seg) S.bodies }) (by dsimp only; rw [lkp_ins, if_pos rfl]) hw .hd ⟨mb, ob, kb, sm, os, ks, _, GA, hM, hput dv data 0 seg R hd, hMs, hSe, rfl⟩)) rfl ?_
  rintro v28 _ ⟨rfl, A', hA', rfl⟩
  refine Ops.nil ?_
  refine Ex.next ?_
  refine Cod.seq ?_
  refine Cod.region ?_
  refine Ops.val (opV_assign rfl) rfl ?_
  refine Ops.nil ?_
  refine Ex.next ?_
  refine Cod.ret ?_
  exact Ex.ret1 rfl rfl (fun _ h => h.subs (by first | ((repeat (first | exact Sub.refl | exact Sub.nil | apply Sub.emp | (apply Sub.cons; focus ((repeat (first | exact Pick.hd | apply Pick.tl)); done)) | (apply Sub.con; focus ((repeat (first | exact Pick.hd | apply Pick.tl)); done)) | (apply Sub.app; focus ((repeat (first | exact Pick.hd | apply Pick.tl)); done)) | apply Sub.drop)); done) | ((repeat (first | rw [List.append_assoc] | rw [List.cons_append] | rw [List.nil_append] | rw [List.append_nil])); (repeat (first | exact Sub.refl | exact Sub.nil | apply Sub.emp | (apply Sub.cons; focus ((repeat (first | exact Pick.hd | apply Pick.tl)); done)) | (apply Sub.con; focus ((repeat (first | exact Pick.hd | apply Pick.tl)); done)) | (apply Sub.app; focus ((repeat (first | exact Pick.hd | apply Pick.tl)); done)) | apply Sub.drop)); done))) ⟨rfl, A', hA', rfl⟩
end
end Go.Proofs.YteejmoldhbfdnaaGreatDoor.Bod2
