/- Package bodies: what is written down; a store in the heap. -/
import Derived.Test.YteejmoldhbfdnaaGreatDoorWal3
namespace Go.Proofs.YteejmoldhbfdnaaGreatDoor.Bod
open Go.W Go.RowKit Lib1 Oct OctR Seal Disk Disk2 Wal Num Wal2 Wal3
namespace Fx
theorem cal_135 : callable Tryz.prog 135 = true := by kernel_rfl
theorem cal_136 : callable Tryz.prog 136 = true := by kernel_rfl
theorem cal_137 : callable Tryz.prog 137 = true := by kernel_rfl
theorem cal_138 : callable Tryz.prog 138 = true := by kernel_rfl
theorem fld_132_0 : fieldOff Tryz.prog 132 0 = some 0 := by kernel_rfl
theorem map_126 : mapInfo Tryz.prog 126 = some (.int .i64, (.pointer none)) := by kernel_rfl
theorem scal_29 : scalarB Tryz.prog 29 = true := by kernel_rfl
theorem scal_3 : scalarB Tryz.prog 3 = true := by kernel_rfl
theorem sl_29 : slInfo Tryz.prog 29 = some (5, 1, 1, some (.int .u8 0)) := by kernel_rfl
theorem sl_77 : slInfo Tryz.prog 77 = some (3, 1, 8, some (.int .i64 0)) := by kernel_rfl
theorem und_5 : Tryz.prog.underlying 5 = some (.int .u8) := by kernel_rfl
theorem und_9 : Tryz.prog.underlying 9 = some .string := by kernel_rfl

end Fx
abbrev zcells (ids : List Int) : List Value := ids.map fun i => .int .i64 i
/-- Bodies written down. -/
def recF (get : Int → Str) : List Int → Str
  | [] => []
  | id :: ids => be 8 id ++ be 4 ((get id).length : Int) ++ get id ++ recF get ids
theorem recF_append (get : Int → Str) (a b : List Int) : recF get (a ++ b) = recF get a ++ recF get b := by
  induction a with
  | nil => rfl
  | cons x xs ih => simp [recF, ih]
theorem recF_snoc (get : Int → Str) (a : List Int) (x : Int) : recF get (a ++ [x]) = recF get a ++ be 8 x ++ be 4 ((get x).length : Int) ++ get x := by
  rw [recF_append]; simp [recF]
theorem recF_take_le (get : Int → Str) (ids : List Int) (i : Nat) : (recF get (ids.take i)).length ≤ (recF get ids).length := by
  conv => rhs; rw [← List.take_append_drop i ids, recF_append]
  simp
section
variable {e : Ctx} {w : World} {As F G : List Hp} {A B IX MX : Hp} {iv v : Value} {ids : List Int} {get : Int → Str} {mb : Nat} {ob : Obj} {kvs : List (Int × Value)}
theorem record_spec {m : Nat} (hm : m = ids.length) (hl : (recF get ids).length ≤ 900000000) (hw : Owns e w As) (hI : Sl IX 1 iv m (zcells ids)) (hIX : Has e As IX) (hM : MapO kvs ob) (hmb : (mb, ob) ∈ MX) (hMX : Has e As MX)
    (hget : ∀ id ∈ ids, ∃ bb dv held seg BX DX, lkp id kvs = some (.pointer (some ⟨bb, 0, none⟩)) ∧ Has e As BX ∧ (bb, .cells #[dv, .int .i64 held, .int .i64 seg] 132) ∈ BX ∧ Has e As DX ∧ Sl DX 1 dv (get id).length (bcells (get id))) :
    Calls Tryz.prog 64 #[iv, .map (some mb)] w (Ret e fun u Bs => ∃ A', Row 5 1 u (recF get ids).length (bcells (recF get ids)) A' ∧ Bs = A' :: As) := by
  subst hm
  refine enter Tryz.func64 rfl Tryz.ntmps64 hw rfl ?_
  refine Cod.seq ?_
  refine Cod.region ?_
  refine Ops.val (opV_assign rfl) rfl ?_
  refine Ops.nil ?_
  refine Ex.next ?_
  refine Cod.seq ?_
  refine Cod.region ?_
  refine Ops.call rfl (opC_call Fx.cal_135 rfl (fun w hw => newWriter hw)) rfl ?_
  rintro v8 _ ⟨wp, W0, rfl, hW0, rfl⟩
  refine Ops.val (opV_assign rfl) rfl ?_
  refine Ops.nil ?_
  refine Ex.next ?_
  refine Cod.seq ?_
  refine Cod.seq ?_
  refine Cod.region ?_
  refine Ops.val (opV_move rfl) rfl ?_
  refine Ops.val (opV_len Fx.sl_77 rfl hI.isSlice) rfl ?_
  refine Ops.val (opV_move rfl) rfl ?_
  refine Ops.nil ?_
  refine Ex.next ?_
  refine Cod.block ?_
  refine Cod.loop (X := Nat × Hp) (fun (i, W) => [(1, .map (some mb)), (5, .pointer (some ⟨wp, 0, none⟩)), (9, iv), (10, .int .i64 ids.length), (11, .int .i64 (i : Int))]) (fun (i, W) => W :: As) (fun (i, W) => i ≤ ids.length ∧ WrA wp 0 (recF get (ids.take i)) W) (fun (i, W) => ids.length - i) ((0, W0)) (⟨Nat.zero_le _, by simpa [recF] using hW0⟩) (by repeat (first | exact trivial | refine ⟨rfl, ?_⟩)) (fun _ h => h.subs (by first | ((repeat (first | exact Sub.refl | exact Sub.nil | apply Sub.emp | (apply Sub.cons; focus ((repeat (first | exact Pick.hd | apply Pick.tl)); done)) | (apply Sub.con; focus ((repeat (first | exact Pick.hd | apply Pick.tl)); done)) | (apply Sub.app; focus ((repeat (first | exact Pick.hd | apply Pick.tl)); done)) | apply Sub.drop)); done) | ((repeat (first | rw [List.append_assoc] | rw [List.cons_append] | rw [List.nil_append] | rw [List.append_nil])); (repeat (first | exact Sub.refl | exact Sub.nil | apply Sub.emp | (apply Sub.cons; focus ((repeat (first | exact Pick.hd | apply Pick.tl)); done)) | (apply Sub.con; focus ((repeat (first | exact Pick.hd | apply Pick.tl)); done)) | (apply Sub.app; focus ((repeat (first | exact Pick.hd | apply Pick.tl)); done)) | apply Sub.drop)); done))) ?_
  rintro ⟨i, W⟩ ⟨hi, hW⟩
  try dsimp only
  refine Cod.seq ?_
  refine Cod.region ?_
  refine Ops.val (opV_lss rfl rfl (by first | exact decide_eq_true (by omega) | exact decide_eq_false (by omega) | rfl)) rfl ?_
  refine Ops.nil ?_
  refine Ex.next ?_
  refine Cod.seq ?_
  refine Cod.cond rfl (fun hc => ?_) (fun hc => ?_)
  · try simp at hc
    obtain ⟨id, hid⟩ : ∃ x, ids[i]? = some x := ⟨_, List.getElem?_eq_getElem (by omega)⟩
    obtain ⟨bb, dv, held, seg, BX, DX, h1, hBX, h2, hDX, h3⟩ := hget id (List.mem_of_getElem? hid)
    have ht : ids.take (i + 1) = ids.take i ++ [id] := by rw [List.take_add_one, hid]; rfl
    have hle := recF_take_le get ids (i + 1)
    rw [ht, recF_snoc] at hle
    simp only [List.length_append, be_length] at hle
    have hil : ids.length ≤ 900000000 := by
        have : ∀ l : List Int, l.length ≤ (recF get l).length := fun l => by
          induction l with
          | nil => simp
          | cons x xs ih => simp [recF, be_length]; omega
        have := this ids
        omega
    refine Cod.skip ?_
    refine Ex.next ?_
    refine Cod.seq ?_
    refine Cod.block ?_
    refine Cod.seq ?_
    refine Cod.region ?_
    refine Ops.val (opV_indexAddr Fx.sl_77 rfl hI (k := i) rfl (by omega)) rfl ?_
    refine Ops.val (opV_loadE Fx.scal_3 rfl hI hIX.up (u := .int .i64 id) (by simp [hid])) rfl ?_
    refine Ops.val (opV_assign rfl) rfl ?_
    refine Ops.nil ?_
    refine Ex.next ?_
    refine Cod.seq ?_
    refine Cod.region ?_
    refine Ops.val (opV_move rfl) rfl ?_
    refine Ops.val (opV_move rfl) rfl ?_
    refine Ops.call rfl (opC_call Fx.cal_136 rfl (fun w hw => longLong hw .hd hW (by omega))) rfl ?_
    rintro v17 _ ⟨rfl, W1, hW1, rfl⟩
    refine Ops.nil ?_
    refine Ex.next ?_
    refine Cod.region ?_
    refine Ops.val (opV_move rfl) rfl ?_
    refine Ops.val (opV_move rfl) rfl ?_
    refine Ops.val (opV_move rfl) rfl ?_
    refine Ops.val (opV_lookup (κ := Int) Fx.map_126 rfl rfl hMX.up (kvs := kvs) (k := id) hmb hM) rfl ?_
    rw [h1]
    refine Ops.val (opV_nil rfl) rfl ?_
    refine Ops.val (opV_field Fx.fld_132_0 rfl) rfl ?_
    refine Ops.val (opV_load Fx.scal_29 rfl (cellOf hBX.up h2 rfl)) rfl ?_
    refine Ops.val (opV_tostr Fx.sl_29 Fx.und_9 Fx.und_5 rfl h3 hDX.up) rfl ?_
    refine Ops.call rfl (opC_call Fx.cal_137 rfl (fun w hw => longStr hw .hd hW1 (by simp only [List.length_append, be_length]; omega))) rfl ?_
    rintro v26 _ ⟨rfl, W2, hW2, rfl⟩
    refine Ops.nil ?_
    refine Ex.blockNormal ?_
    refine Ex.next ?_
    refine Cod.region ?_
    refine Ops.val (opV_add64 rfl rfl (by omega)) rfl ?_
    refine Ops.val (opV_move rfl) rfl ?_
    refine Ops.nil ?_
    refine Ex.toN (fun _ _ hs => ⟨(i + 1, W2), ⟨by dsimp only; omega, by rw [ht, recF_snoc]; exact hW2⟩, (by first | omega | (dsimp only; omega) | (simp; omega) | (simp; done)), hs⟩) (by repeat (first | exact trivial | refine ⟨rfl, ?_⟩)) (fun _ h => h.subs (by first | ((repeat (first | exact Sub.refl | exact Sub.nil | apply Sub.emp | (apply Sub.cons; focus ((repeat (first | exact Pick.hd | apply Pick.tl)); done)) | (apply Sub.con; focus ((repeat (first | exact Pick.hd | apply Pick.tl)); done)) | (apply Sub.app; focus ((repeat (first | exact Pick.hd | apply Pick.tl)); done)) | apply Sub.drop)); done) | ((repeat (first | rw [List.append_assoc] | rw [List.cons_append] | rw [List.nil_append] | rw [List.append_nil])); (repeat (first | exact Sub.refl | exact Sub.nil | apply Sub.emp | (apply Sub.cons; focus ((repeat (first | exact Pick.hd | apply Pick.tl)); done)) | (apply Sub.con; focus ((repeat (first | exact Pick.hd | apply Pick.tl)); done)) | (apply Sub.app; focus ((repeat (first | exact Pick.hd | apply Pick.tl)); done)) | apply Sub.drop)); done)))
  · try simp at hc
    obtain rfl : i = ids.length := by omega
    rw [List.take_length] at hW
    refine Cod.exit ?_
    refine Ex.thenExit ?_
    refine Ex.thenExit ?_
    refine Ex.blockHit ?_
    refine Ex.next ?_
    refine Cod.seq ?_
    refine Cod.region ?_
    refine Ops.val (opV_move rfl) rfl ?_
    refine Ops.call rfl (opC_call Fx.cal_138 rfl (fun w hw => Oct.bytes hw (.mem (List.Mem.head _)) hW (by omega))) rfl ?_
    rintro v29 _ ⟨A', hA', rfl⟩
    refine Ops.val (opV_assign rfl) rfl ?_
    refine Ops.nil ?_
    refine Ex.next ?_
    refine Cod.ret ?_
    exact Ex.ret1 rfl rfl (fun _ h => h.subs (by first | ((repeat (first | exact Sub.refl | exact Sub.nil | apply Sub.emp | (apply Sub.cons; focus ((repeat (first | exact Pick.hd | apply Pick.tl)); done)) | (apply Sub.con; focus ((repeat (first | exact Pick.hd | apply Pick.tl)); done)) | (apply Sub.app; focus ((repeat (first | exact Pick.hd | apply Pick.tl)); done)) | apply Sub.drop)); done) | ((repeat (first | rw [List.append_assoc] | rw [List.cons_append] | rw [List.nil_append] | rw [List.append_nil])); (repeat (first | exact Sub.refl | exact Sub.nil | apply Sub.emp | (apply Sub.cons; focus ((repeat (first | exact Pick.hd | apply Pick.tl)); done)) | (apply Sub.con; focus ((repeat (first | exact Pick.hd | apply Pick.tl)); done)) | (apply Sub.app; focus ((repeat (first | exact Pick.hd | apply Pick.tl)); done)) | apply Sub.drop)); done))) ⟨A', hA', rfl⟩
end
end Go.Proofs.YteejmoldhbfdnaaGreatDoor.Bod
