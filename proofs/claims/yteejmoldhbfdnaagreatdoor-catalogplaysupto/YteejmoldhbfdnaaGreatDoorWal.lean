/- Package wal: a log's calls but Open. -/
import Derived.Test.YteejmoldhbfdnaaGreatDoorDisk2
import Derived.Test.YteejmoldhbfdnaaGreatDoorKit
namespace Go.Proofs.YteejmoldhbfdnaaGreatDoor.Wal
open Go.W Go.RowKit Lib1 Oct OctR Seal Disk Disk2
namespace Fx
theorem cal_133 : callable Tryz.prog 133 = true := by kernel_rfl
theorem cal_134 : callable Tryz.prog 134 = true := by kernel_rfl
theorem cal_149 : callable Tryz.prog 149 = true := by kernel_rfl
theorem cal_205 : callable Tryz.prog 205 = true := by kernel_rfl
theorem cal_206 : callable Tryz.prog 206 = true := by kernel_rfl
theorem cal_38 : callable Tryz.prog 38 = true := by kernel_rfl
theorem fld_228_0 : fieldOff Tryz.prog 228 0 = some 0 := by kernel_rfl
theorem fld_228_1 : fieldOff Tryz.prog 228 1 = some 1 := by kernel_rfl
theorem fld_228_2 : fieldOff Tryz.prog 228 2 = some 2 := by kernel_rfl
theorem fld_228_3 : fieldOff Tryz.prog 228 3 = some 3 := by kernel_rfl
theorem scal_24 : scalarB Tryz.prog 24 = true := by kernel_rfl
theorem scal_3 : scalarB Tryz.prog 3 = true := by kernel_rfl
theorem scal_9 : scalarB Tryz.prog 9 = true := by kernel_rfl
theorem sl_29 : slInfo Tryz.prog 29 = some (5, 1, 1, some (.int .u8 0)) := by kernel_rfl
theorem sz1_3 : (Tryz.prog.info? 3).map (·.size) = some 1 := by kernel_rfl

end Fx
theorem _root_.Go.W.Owns.pick2 {e : Ctx} {w : World} {As F G : List Hp} {A B : Hp} (h : Owns e w As) (hp : Pick As A F) (hq : Pick F B G) : Owns e w (A :: B :: G) := by
  refine (h.pick hp).perm ?_
  have := (hq.perm.cons A).flatten
  exact this
/-- What stands at the start of the world. -/
structure Glob (e : Ctx) : Prop where
  nib : HasNib e
  pow : Kit.HasPow e
/-- A log's file's name. -/
def fileF (base : Str) (gen : Nat) : Str := base ++ [46] ++ Lib.itoa gen
abbrev logB (l d : Nat) (base : Str) (gen size : Nat) : Hp := [(l, .cells #[.pointer (some ⟨d, 0, none⟩), S base, .int .i64 (gen : Int), .int .i64 (size : Int)] 228)]
section
variable {e : Ctx} {w : World} {As F G : List Hp} {A B : Hp} {p l gen size k : Nat} {base rec_ : Str} {v : Value} {D : DK}
theorem file_spec {d : Nat} (hG : Glob e) (hk : k ≤ 9000000000000000000) (hb : (fileF base k).length ≤ 1000000000) (hw : Owns e w As) (hA : Has e As (logB l d base gen size)) :
    Calls Tryz.prog 149 #[.pointer (some ⟨l, 0, none⟩), .int .i64 (k : Int)] w (Ret e fun u Bs => u = S (fileF base k) ∧ Bs = As) := by
  unfold fileF at hb
  simp only [List.length_append, List.length_cons, List.length_nil] at hb
  refine enter Tryz.func149 rfl Tryz.ntmps149 hw rfl ?_
  refine Cod.seq ?_
  refine Cod.region ?_
  refine Ops.val (opV_assign rfl) rfl ?_
  refine Ops.nil ?_
  refine Ex.next ?_
  refine Cod.seq ?_
  refine Cod.draw [3] [0, 1, 2, 4, 5, 7, 8] (As) [0, 1, 2, 3, 4, 5, 6, 7, 8] M.mixed (by kernel_rfl) ?_
  refine AnyJ.valU rfl rfl rfl (opV_move rfl) rfl (fun _ _ _ h => h.2.elim) ?_
  refine AnyJ.valU rfl rfl rfl (opV_nil rfl) rfl (fun _ _ _ h => h.2.elim) ?_
  refine AnyJ.valU rfl rfl rfl (opV_field Fx.fld_228_1 rfl) rfl (fun _ _ _ h => h.2.elim) ?_
  refine AnyJ.val rfl rfl (opV_load Fx.scal_9 rfl (cellOf hA (List.Mem.head _) rfl)) rfl (fun _ _ _ h => h.2.elim) (fun _ h => h.subs (by first | ((repeat (first | exact Sub.refl | exact Sub.nil | apply Sub.emp | (apply Sub.cons; focus ((repeat (first | exact Pick.hd | apply Pick.tl)); done)) | (apply Sub.con; focus ((repeat (first | exact Pick.hd | apply Pick.tl)); done)) | (apply Sub.app; focus ((repeat (first | exact Pick.hd | apply Pick.tl)); done)) | apply Sub.drop)); done) | ((repeat (first | rw [List.append_assoc] | rw [List.cons_append] | rw [List.nil_append] | rw [List.append_nil])); (repeat (first | exact Sub.refl | exact Sub.nil | apply Sub.emp | (apply Sub.cons; focus ((repeat (first | exact Pick.hd | apply Pick.tl)); done)) | (apply Sub.con; focus ((repeat (first | exact Pick.hd | apply Pick.tl)); done)) | (apply Sub.app; focus ((repeat (first | exact Pick.hd | apply Pick.tl)); done)) | apply Sub.drop)); done))) ?_
  refine AnyJ.valU rfl rfl rfl (opV_sadd rfl rfl (by simp; omega)) rfl (fun _ _ _ h => h.2.elim) ?_
  refine AnyJ.valU rfl rfl rfl (opV_move rfl) rfl (fun _ _ _ h => h.2.elim) ?_
  refine AnyJ.call rfl rfl (opC_call Fx.cal_133 rfl (fun w hw => Kit.itoa hG.pow (by omega) (by omega) hw)) rfl ?_
  rintro v11 _ ⟨rfl, rfl⟩
  refine ⟨(by first | (intro _ _ h; refine h.subs ?_; (repeat (first | exact Sub.refl | exact Sub.nil | apply Sub.emp | (apply Sub.cons; focus ((repeat (first | exact Pick.hd | apply Pick.tl)); done)) | (apply Sub.con; focus ((repeat (first | exact Pick.hd | apply Pick.tl)); done)) | (apply Sub.app; focus ((repeat (first | exact Pick.hd | apply Pick.tl)); done)) | apply Sub.drop)); done) | exact lead_no (by kernel_rfl)), ?_⟩
  refine AnyJ.valU rfl rfl rfl (opV_sadd rfl rfl (by simp; omega)) rfl (fun _ _ _ h => h.2.elim) ?_
  refine AnyJ.valU rfl rfl rfl (opV_assign rfl) rfl (fun _ _ _ h => h.2.elim) ?_
  refine AnyJ.nil ?_
  refine Ex.next ?_
  refine Cod.ret ?_
  exact Ex.ret1 rfl rfl (fun _ h => h.subs (by first | ((repeat (first | exact Sub.refl | exact Sub.nil | apply Sub.emp | (apply Sub.cons; focus ((repeat (first | exact Pick.hd | apply Pick.tl)); done)) | (apply Sub.con; focus ((repeat (first | exact Pick.hd | apply Pick.tl)); done)) | (apply Sub.app; focus ((repeat (first | exact Pick.hd | apply Pick.tl)); done)) | apply Sub.drop)); done) | ((repeat (first | rw [List.append_assoc] | rw [List.cons_append] | rw [List.nil_append] | rw [List.append_nil])); (repeat (first | exact Sub.refl | exact Sub.nil | apply Sub.emp | (apply Sub.cons; focus ((repeat (first | exact Pick.hd | apply Pick.tl)); done)) | (apply Sub.con; focus ((repeat (first | exact Pick.hd | apply Pick.tl)); done)) | (apply Sub.app; focus ((repeat (first | exact Pick.hd | apply Pick.tl)); done)) | apply Sub.drop)); done))) ⟨rfl, rfl⟩

theorem put_ok (hG : Glob e) (hk : k ≤ 9000000000000000000) (hg : good (fileF base k)) (hu : D.used ≤ 900000000) (hn : D.pend.length ≤ 100000000) (hr : D.room ≤ 9223372036854775807) (hl : rec_.length ≤ 1048576) (hf : (D.used : Int) + (wrapped rec_).length ≤ D.room)
    {m : Nat} (hm : m = rec_.length) (hw : Owns e w As) (hp : Pick As A F) (hq : Has e F (logB l p base gen size)) (hD : DiskA p D A) (hB : Has e F B) (hv : Sl B 1 v m (bcells rec_)) :
    Calls Tryz.prog 134 #[.pointer (some ⟨l, 0, none⟩), .int .i64 (k : Int), v] w
      (Ret e fun u Bs => u = .tuple #[.int .i64 ((wrapped rec_).length : Int), .int .i64 0] ∧ ∃ A', DiskA p (D.append (fileF base k) (wrapped rec_)) A' ∧ Bs = A' :: F) := by
  subst hm
  have hwl := wrapped_length rec_
  refine enter Tryz.func134 rfl Tryz.ntmps134 (hw.pick hp) rfl ?_
  refine Cod.seq ?_
  refine Cod.region ?_
  refine Ops.val (opV_assign rfl) rfl ?_
  refine Ops.val (opV_assign rfl) rfl ?_
  refine Ops.nil ?_
  refine Ex.next ?_
  refine Cod.seq ?_
  refine Cod.region ?_
  refine Ops.val (opV_move rfl) rfl ?_
  refine Ops.call rfl (opC_call Fx.cal_205 rfl (fun w hw => wrap_spec rfl hG.nib hw hv hB.up hl)) rfl ?_
  rintro v12 _ ⟨v', W, rfl, hW, rfl⟩
  refine Ops.val (opV_move rfl) rfl ?_
  refine Ops.val (opV_extract rfl rfl) rfl ?_
  refine Ops.val (opV_extract rfl rfl) rfl ?_
  refine Ops.val (opV_assign rfl) rfl ?_
  refine Ops.val (opV_assign rfl) rfl ?_
  refine Ops.nil ?_
  refine Ex.next ?_
  refine Cod.seq ?_
  refine Cod.seq ?_
  refine Cod.region ?_
  refine Ops.val (opV_move rfl) rfl ?_
  refine Ops.val (opV_neq rfl rfl (by first | exact decide_eq_true (by omega) | exact decide_eq_false (by omega) | rfl)) rfl ?_
  refine Ops.nil ?_
  refine Ex.next ?_
  refine Cod.condF rfl ?_
  refine Cod.skip ?_
  refine Ex.next ?_
  refine Cod.seq ?_
  refine Cod.draw [5] [0, 1, 2, 3, 4, 6, 7, 9, 11, 12] (F) [0, 1, 2, 3, 4, 5, 6, 7, 9, 8, 10, 11, 12] M.mixed (by kernel_rfl) ?_
  refine AnyJ.valU rfl rfl rfl (opV_move rfl) rfl (fun _ _ _ h => h.2.elim) ?_
  refine AnyJ.valU rfl rfl rfl (opV_len Fx.sl_29 rfl (by first | exact ⟨_, _, rfl⟩ | exact Sl.isSlice (by assumption) | exact (Row.sl (by assumption)).isSlice)) rfl (fun _ _ _ h => h.2.elim) ?_
  refine AnyJ.valU rfl rfl rfl (opV_move rfl) rfl (fun _ _ _ h => h.2.elim) ?_
  refine AnyJ.valU rfl rfl rfl (opV_nil rfl) rfl (fun _ _ _ h => h.2.elim) ?_
  refine AnyJ.valU rfl rfl rfl (opV_field Fx.fld_228_0 rfl) rfl (fun _ _ _ h => h.2.elim) ?_
  refine AnyJ.val rfl rfl (opV_load Fx.scal_24 rfl (cellOf hq (List.Mem.head _) rfl)) rfl (fun _ _ _ h => h.2.elim) (fun _ h => h.subs (by first | ((repeat (first | exact Sub.refl | exact Sub.nil | apply Sub.emp | (apply Sub.cons; focus ((repeat (first | exact Pick.hd | apply Pick.tl)); done)) | (apply Sub.con; focus ((repeat (first | exact Pick.hd | apply Pick.tl)); done)) | (apply Sub.app; focus ((repeat (first | exact Pick.hd | apply Pick.tl)); done)) | apply Sub.drop)); done) | ((repeat (first | rw [List.append_assoc] | rw [List.cons_append] | rw [List.nil_append] | rw [List.append_nil])); (repeat (first | exact Sub.refl | exact Sub.nil | apply Sub.emp | (apply Sub.cons; focus ((repeat (first | exact Pick.hd | apply Pick.tl)); done)) | (apply Sub.con; focus ((repeat (first | exact Pick.hd | apply Pick.tl)); done)) | (apply Sub.app; focus ((repeat (first | exact Pick.hd | apply Pick.tl)); done)) | apply Sub.drop)); done))) ?_
  refine AnyJ.valU rfl rfl rfl (opV_move rfl) rfl (fun _ _ _ h => h.2.elim) ?_
  refine AnyJ.valU rfl rfl rfl (opV_move rfl) rfl (fun _ _ _ h => h.2.elim) ?_
  refine AnyJ.valU rfl rfl rfl (opV_move rfl) rfl (fun _ _ _ h => h.2.elim) ?_
  refine AnyJ.call rfl rfl (opC_call Fx.cal_149 rfl (fun w hw => file_spec hG hk (by have := hg.2.1; omega) hw hq.up.up)) rfl ?_
  rintro v26 _ ⟨rfl, rfl⟩
  refine ⟨(by first | (intro _ _ h; refine h.subs ?_; (repeat (first | exact Sub.refl | exact Sub.nil | apply Sub.emp | (apply Sub.cons; focus ((repeat (first | exact Pick.hd | apply Pick.tl)); done)) | (apply Sub.con; focus ((repeat (first | exact Pick.hd | apply Pick.tl)); done)) | (apply Sub.app; focus ((repeat (first | exact Pick.hd | apply Pick.tl)); done)) | apply Sub.drop)); done) | exact lead_no (by kernel_rfl)), ?_⟩
  refine AnyJ.call rfl rfl (opC_call Fx.cal_206 rfl (fun w hw => append_spec rfl hg (by omega) hn (by omega) hf hr hw (.tl .hd) (.mem (List.Mem.head _)) hD hW.sl)) rfl ?_
  rintro v28 _ ⟨rfl, A', hA', rfl⟩
  refine ⟨(by first | (intro _ _ h; refine h.subs ?_; (repeat (first | exact Sub.refl | exact Sub.nil | apply Sub.emp | (apply Sub.cons; focus ((repeat (first | exact Pick.hd | apply Pick.tl)); done)) | (apply Sub.con; focus ((repeat (first | exact Pick.hd | apply Pick.tl)); done)) | (apply Sub.app; focus ((repeat (first | exact Pick.hd | apply Pick.tl)); done)) | apply Sub.drop)); done) | exact lead_no (by kernel_rfl)), ?_⟩
  refine AnyJ.valU rfl rfl rfl (opV_assign rfl) rfl (fun _ _ _ h => h.2.elim) ?_
  refine AnyJ.valU rfl rfl rfl (opV_assign rfl) rfl (fun _ _ _ h => h.2.elim) ?_
  refine AnyJ.nil ?_
  refine Ex.next ?_
  refine Cod.ret ?_
  exact Ex.ret2 rfl rfl rfl (fun _ h => h.subs (by first | ((repeat (first | exact Sub.refl | exact Sub.nil | apply Sub.emp | (apply Sub.cons; focus ((repeat (first | exact Pick.hd | apply Pick.tl)); done)) | (apply Sub.con; focus ((repeat (first | exact Pick.hd | apply Pick.tl)); done)) | (apply Sub.app; focus ((repeat (first | exact Pick.hd | apply Pick.tl)); done)) | apply Sub.drop)); done) | ((repeat (first | rw [List.append_assoc] | rw [List.cons_append] | rw [List.nil_append] | rw [List.append_nil])); (repeat (first | exact Sub.refl | exact Sub.nil | apply Sub.emp | (apply Sub.cons; focus ((repeat (first | exact Pick.hd | apply Pick.tl)); done)) | (apply Sub.con; focus ((repeat (first | exact Pick.hd | apply Pick.tl)); done)) | (apply Sub.app; focus ((repeat (first | exact Pick.hd | apply Pick.tl)); done)) | apply Sub.drop)); done))) ⟨rfl, A', hA', rfl⟩
theorem put_full (hG : Glob e) (hk : k ≤ 9000000000000000000) (hg : good (fileF base k)) (hu : D.used ≤ 900000000) (hr : D.room ≤ 9223372036854775807 ∧ -9223372036854775808 ≤ D.room) (hl : rec_.length ≤ 1048576) (hf : D.room < (D.used : Int) + (wrapped rec_).length)
    {m : Nat} (hm : m = rec_.length) (hw : Owns e w As) (hp : Has e As A) (hq : Has e As (logB l p base gen size)) (hD : DiskA p D A) (hB : Has e As B) (hv : Sl B 1 v m (bcells rec_)) :
    Calls Tryz.prog 134 #[.pointer (some ⟨l, 0, none⟩), .int .i64 (k : Int), v] w
      (Ret e fun u Bs => u = .tuple #[.int .i64 ((wrapped rec_).length : Int), .int .i64 6] ∧ Bs = As) := by
  subst hm
  have hwl := wrapped_length rec_
  refine enter Tryz.func134 rfl Tryz.ntmps134 hw rfl ?_
  refine Cod.seq ?_
  refine Cod.region ?_
  refine Ops.val (opV_assign rfl) rfl ?_
  refine Ops.val (opV_assign rfl) rfl ?_
  refine Ops.nil ?_
  refine Ex.next ?_
  refine Cod.seq ?_
  refine Cod.region ?_
  refine Ops.val (opV_move rfl) rfl ?_
  refine Ops.call rfl (opC_call Fx.cal_205 rfl (fun w hw => wrap_spec rfl hG.nib hw hv hB hl)) rfl ?_
  rintro v12 _ ⟨v', W, rfl, hW, rfl⟩
  refine Ops.val (opV_move rfl) rfl ?_
  refine Ops.val (opV_extract rfl rfl) rfl ?_
  refine Ops.val (opV_extract rfl rfl) rfl ?_
  refine Ops.val (opV_assign rfl) rfl ?_
  refine Ops.val (opV_assign rfl) rfl ?_
  refine Ops.nil ?_
  refine Ex.next ?_
  refine Cod.seq ?_
  refine Cod.seq ?_
  refine Cod.region ?_
  refine Ops.val (opV_move rfl) rfl ?_
  refine Ops.val (opV_neq rfl rfl (by first | exact decide_eq_true (by omega) | exact decide_eq_false (by omega) | rfl)) rfl ?_
  refine Ops.nil ?_
  refine Ex.next ?_
  refine Cod.condF rfl ?_
  refine Cod.skip ?_
  refine Ex.next ?_
  refine Cod.seq ?_
  refine Cod.draw [5] [0, 1, 2, 3, 4, 6, 7, 9, 11, 12] (W :: As) [0, 1, 2, 3, 4, 5, 6, 7, 9, 8, 10, 11, 12] M.mixed (by kernel_rfl) ?_
  refine AnyJ.valU rfl rfl rfl (opV_move rfl) rfl (fun _ _ _ h => h.2.elim) ?_
  refine AnyJ.valU rfl rfl rfl (opV_len Fx.sl_29 rfl (by first | exact ⟨_, _, rfl⟩ | exact Sl.isSlice (by assumption) | exact (Row.sl (by assumption)).isSlice)) rfl (fun _ _ _ h => h.2.elim) ?_
  refine AnyJ.valU rfl rfl rfl (opV_move rfl) rfl (fun _ _ _ h => h.2.elim) ?_
  refine AnyJ.valU rfl rfl rfl (opV_nil rfl) rfl (fun _ _ _ h => h.2.elim) ?_
  refine AnyJ.valU rfl rfl rfl (opV_field Fx.fld_228_0 rfl) rfl (fun _ _ _ h => h.2.elim) ?_
  refine AnyJ.val rfl rfl (opV_load Fx.scal_24 rfl (cellOf hq.up (List.Mem.head _) rfl)) rfl (fun _ _ _ h => h.2.elim) (fun _ h => h.subs (by first | ((repeat (first | exact Sub.refl | exact Sub.nil | apply Sub.emp | (apply Sub.cons; focus ((repeat (first | exact Pick.hd | apply Pick.tl)); done)) | (apply Sub.con; focus ((repeat (first | exact Pick.hd | apply Pick.tl)); done)) | (apply Sub.app; focus ((repeat (first | exact Pick.hd | apply Pick.tl)); done)) | apply Sub.drop)); done) | ((repeat (first | rw [List.append_assoc] | rw [List.cons_append] | rw [List.nil_append] | rw [List.append_nil])); (repeat (first | exact Sub.refl | exact Sub.nil | apply Sub.emp | (apply Sub.cons; focus ((repeat (first | exact Pick.hd | apply Pick.tl)); done)) | (apply Sub.con; focus ((repeat (first | exact Pick.hd | apply Pick.tl)); done)) | (apply Sub.app; focus ((repeat (first | exact Pick.hd | apply Pick.tl)); done)) | apply Sub.drop)); done))) ?_
  refine AnyJ.valU rfl rfl rfl (opV_move rfl) rfl (fun _ _ _ h => h.2.elim) ?_
  refine AnyJ.valU rfl rfl rfl (opV_move rfl) rfl (fun _ _ _ h => h.2.elim) ?_
  refine AnyJ.valU rfl rfl rfl (opV_move rfl) rfl (fun _ _ _ h => h.2.elim) ?_
  refine AnyJ.call rfl rfl (opC_call Fx.cal_149 rfl (fun w hw => file_spec hG hk (by have := hg.2.1; omega) hw hq.up)) rfl ?_
  rintro v26 _ ⟨rfl, rfl⟩
  refine ⟨(by first | (intro _ _ h; refine h.subs ?_; (repeat (first | exact Sub.refl | exact Sub.nil | apply Sub.emp | (apply Sub.cons; focus ((repeat (first | exact Pick.hd | apply Pick.tl)); done)) | (apply Sub.con; focus ((repeat (first | exact Pick.hd | apply Pick.tl)); done)) | (apply Sub.app; focus ((repeat (first | exact Pick.hd | apply Pick.tl)); done)) | apply Sub.drop)); done) | exact lead_no (by kernel_rfl)), ?_⟩
  refine AnyJ.call rfl rfl (opC_call Fx.cal_206 rfl (fun w hw => append_full rfl hg (by omega) (by omega) (by omega) hr hw hp.up hD hW.sl)) rfl ?_
  rintro v28 _ ⟨rfl, rfl⟩
  refine ⟨(by first | (intro _ _ h; refine h.subs ?_; (repeat (first | exact Sub.refl | exact Sub.nil | apply Sub.emp | (apply Sub.cons; focus ((repeat (first | exact Pick.hd | apply Pick.tl)); done)) | (apply Sub.con; focus ((repeat (first | exact Pick.hd | apply Pick.tl)); done)) | (apply Sub.app; focus ((repeat (first | exact Pick.hd | apply Pick.tl)); done)) | apply Sub.drop)); done) | exact lead_no (by kernel_rfl)), ?_⟩
  refine AnyJ.valU rfl rfl rfl (opV_assign rfl) rfl (fun _ _ _ h => h.2.elim) ?_
  refine AnyJ.valU rfl rfl rfl (opV_assign rfl) rfl (fun _ _ _ h => h.2.elim) ?_
  refine AnyJ.nil ?_
  refine Ex.next ?_
  refine Cod.ret ?_
  exact Ex.ret2 rfl rfl rfl (fun _ h => h.subs (by first | ((repeat (first | exact Sub.refl | exact Sub.nil | apply Sub.emp | (apply Sub.cons; focus ((repeat (first | exact Pick.hd | apply Pick.tl)); done)) | (apply Sub.con; focus ((repeat (first | exact Pick.hd | apply Pick.tl)); done)) | (apply Sub.app; focus ((repeat (first | exact Pick.hd | apply Pick.tl)); done)) | apply Sub.drop)); done) | ((repeat (first | rw [List.append_assoc] | rw [List.cons_append] | rw [List.nil_append] | rw [List.append_nil])); (repeat (first | exact Sub.refl | exact Sub.nil | apply Sub.emp | (apply Sub.cons; focus ((repeat (first | exact Pick.hd | apply Pick.tl)); done)) | (apply Sub.con; focus ((repeat (first | exact Pick.hd | apply Pick.tl)); done)) | (apply Sub.app; focus ((repeat (first | exact Pick.hd | apply Pick.tl)); done)) | apply Sub.drop)); done))) ⟨rfl, rfl⟩

theorem logAppend_ok (hG : Glob e) (hk : gen ≤ 9000000000000000000) (hg : good (fileF base gen)) (hs : size ≤ 900000000) (hu : D.used ≤ 900000000) (hn : D.pend.length ≤ 100000000) (hr : D.room ≤ 9223372036854775807) (hl : rec_.length ≤ 1048576) (hf : (D.used : Int) + (wrapped rec_).length ≤ D.room)
    {m : Nat} (hm : m = rec_.length) (hw : Owns e w As) (hp : Pick As A F) (hq : Pick F (logB l p base gen size) G) (hD : DiskA p D A) (hB : Has e G B) (hv : Sl B 1 v m (bcells rec_)) :
    Calls Tryz.prog 63 #[.pointer (some ⟨l, 0, none⟩), v] w
      (Ret e fun u Bs => u = .int .i64 0 ∧ ∃ A', DiskA p (D.append (fileF base gen) (wrapped rec_)) A' ∧ Bs = A' :: logB l p base gen (size + (wrapped rec_).length) :: G) := by
  subst hm
  have hwl := wrapped_length rec_
  refine enter Tryz.func63 rfl Tryz.ntmps63 (hw.pick2 hp hq) rfl ?_
  refine Cod.seq ?_
  refine Cod.region ?_
  refine Ops.val (opV_assign rfl) rfl ?_
  refine Ops.nil ?_
  refine Ex.next ?_
  refine Cod.seq ?_
  refine Cod.region ?_
  refine Ops.val (opV_move rfl) rfl ?_
  refine Ops.val (opV_move rfl) rfl ?_
  refine Ops.val (opV_nil rfl) rfl ?_
  refine Ops.val (opV_field Fx.fld_228_2 rfl) rfl ?_
  refine Ops.val (opV_load Fx.scal_3 rfl (by repeat (first | exact Cell.one rfl | assumption | apply Cell.tl))) rfl ?_
  refine Ops.val (opV_move rfl) rfl ?_
  refine Ops.call rfl (opC_call Fx.cal_134 rfl (fun w hw => put_ok hG hk hg hu hn hr hl hf rfl hw .hd (.mem (by repeat (first | exact List.Mem.head _ | apply List.Mem.tail))) hD hB.up hv)) rfl ?_
  rintro v14 _ ⟨rfl, A', hA', rfl⟩
  refine Ops.val (opV_move rfl) rfl ?_
  refine Ops.val (opV_extract rfl rfl) rfl ?_
  refine Ops.val (opV_extract rfl rfl) rfl ?_
  refine Ops.val (opV_assign rfl) rfl ?_
  refine Ops.val (opV_assign rfl) rfl ?_
  refine Ops.nil ?_
  refine Ex.next ?_
  refine Cod.seq ?_
  refine Cod.seq ?_
  refine Cod.region ?_
  refine Ops.val (opV_move rfl) rfl ?_
  refine Ops.val (opV_eql rfl rfl (by first | exact decide_eq_true (by omega) | exact decide_eq_false (by omega) | rfl)) rfl ?_
  refine Ops.nil ?_
  refine Ex.next ?_
  refine Cod.condT rfl ?_
  refine Cod.region ?_
  refine Ops.val (opV_move rfl) rfl ?_
  refine Ops.val (opV_nil rfl) rfl ?_
  refine Ops.val (opV_field Fx.fld_228_3 rfl) rfl ?_
  refine Ops.val (opV_load Fx.scal_3 rfl (by repeat (first | exact Cell.one rfl | assumption | apply Cell.tl))) rfl ?_
  refine Ops.val (opV_move rfl) rfl ?_
  refine Ops.val (opV_add64 rfl rfl (by omega)) rfl ?_
  refine Ops.val (opV_nil rfl) rfl ?_
  refine Ops.val (opV_field Fx.fld_228_3 rfl) rfl ?_
  refine Ops.st rfl (opS_store Fx.scal_3 Fx.sz1_3 rfl rfl (by first | rfl | assumption | exact Row.one (by assumption) | exact Sl.one (by assumption)) rfl (by repeat (first | exact Upd.hd | apply Upd.tl)) (by repeat (first | exact LSet.hd | apply LSet.tl))) ?_
  refine Ops.nil ?_
  refine Ex.next ?_
  refine Cod.seq ?_
  refine Cod.region ?_
  refine Ops.val (opV_move rfl) rfl ?_
  refine Ops.val (opV_assign rfl) rfl ?_
  refine Ops.nil ?_
  refine Ex.next ?_
  refine Cod.ret ?_
  exact Ex.ret1 rfl rfl (fun _ h => h.subs (by first | ((repeat (first | exact Sub.refl | exact Sub.nil | apply Sub.emp | (apply Sub.cons; focus ((repeat (first | exact Pick.hd | apply Pick.tl)); done)) | (apply Sub.con; focus ((repeat (first | exact Pick.hd | apply Pick.tl)); done)) | (apply Sub.app; focus ((repeat (first | exact Pick.hd | apply Pick.tl)); done)) | apply Sub.drop)); done) | ((repeat (first | rw [List.append_assoc] | rw [List.cons_append] | rw [List.nil_append] | rw [List.append_nil])); (repeat (first | exact Sub.refl | exact Sub.nil | apply Sub.emp | (apply Sub.cons; focus ((repeat (first | exact Pick.hd | apply Pick.tl)); done)) | (apply Sub.con; focus ((repeat (first | exact Pick.hd | apply Pick.tl)); done)) | (apply Sub.app; focus ((repeat (first | exact Pick.hd | apply Pick.tl)); done)) | apply Sub.drop)); done))) ⟨rfl, A', hA', by simp [logB]⟩
theorem logAppend_full (hG : Glob e) (hk : gen ≤ 9000000000000000000) (hg : good (fileF base gen)) (hu : D.used ≤ 900000000) (hr : D.room ≤ 9223372036854775807 ∧ -9223372036854775808 ≤ D.room) (hl : rec_.length ≤ 1048576) (hf : D.room < (D.used : Int) + (wrapped rec_).length)
    {m : Nat} (hm : m = rec_.length) (hw : Owns e w As) (hp : Has e As A) (hq : Has e As (logB l p base gen size)) (hD : DiskA p D A) (hB : Has e As B) (hv : Sl B 1 v m (bcells rec_)) :
    Calls Tryz.prog 63 #[.pointer (some ⟨l, 0, none⟩), v] w (Ret e fun u Bs => u = .int .i64 6 ∧ Bs = As) := by
  subst hm
  refine enter Tryz.func63 rfl Tryz.ntmps63 hw rfl ?_
  refine Cod.seq ?_
  refine Cod.region ?_
  refine Ops.val (opV_assign rfl) rfl ?_
  refine Ops.nil ?_
  refine Ex.next ?_
  refine Cod.seq ?_
  refine Cod.region ?_
  refine Ops.val (opV_move rfl) rfl ?_
  refine Ops.val (opV_move rfl) rfl ?_
  refine Ops.val (opV_nil rfl) rfl ?_
  refine Ops.val (opV_field Fx.fld_228_2 rfl) rfl ?_
  refine Ops.val (opV_load Fx.scal_3 rfl (cellOf hq (List.Mem.head _) rfl)) rfl ?_
  refine Ops.val (opV_move rfl) rfl ?_
  refine Ops.call rfl (opC_call Fx.cal_134 rfl (fun w hw => put_full hG hk hg hu hr hl hf rfl hw hp hq hD hB hv)) rfl ?_
  rintro v14 _ ⟨rfl, rfl⟩
  refine Ops.val (opV_move rfl) rfl ?_
  refine Ops.val (opV_extract rfl rfl) rfl ?_
  refine Ops.val (opV_extract rfl rfl) rfl ?_
  refine Ops.val (opV_assign rfl) rfl ?_
  refine Ops.val (opV_assign rfl) rfl ?_
  refine Ops.nil ?_
  refine Ex.next ?_
  refine Cod.seq ?_
  refine Cod.seq ?_
  refine Cod.region ?_
  refine Ops.val (opV_move rfl) rfl ?_
  refine Ops.val (opV_eql rfl rfl (by first | exact decide_eq_true (by omega) | exact decide_eq_false (by omega) | rfl)) rfl ?_
  refine Ops.nil ?_
  refine Ex.next ?_
  refine Cod.condF rfl ?_
  refine Cod.skip ?_
  refine Ex.next ?_
  refine Cod.seq ?_
  refine Cod.region ?_
  refine Ops.val (opV_move rfl) rfl ?_
  refine Ops.val (opV_assign rfl) rfl ?_
  refine Ops.nil ?_
  refine Ex.next ?_
  refine Cod.ret ?_
  exact Ex.ret1 rfl rfl (fun _ h => h.subs (by first | ((repeat (first | exact Sub.refl | exact Sub.nil | apply Sub.emp | (apply Sub.cons; focus ((repeat (first | exact Pick.hd | apply Pick.tl)); done)) | (apply Sub.con; focus ((repeat (first | exact Pick.hd | apply Pick.tl)); done)) | (apply Sub.app; focus ((repeat (first | exact Pick.hd | apply Pick.tl)); done)) | apply Sub.drop)); done) | ((repeat (first | rw [List.append_assoc] | rw [List.cons_append] | rw [List.nil_append] | rw [List.append_nil])); (repeat (first | exact Sub.refl | exact Sub.nil | apply Sub.emp | (apply Sub.cons; focus ((repeat (first | exact Pick.hd | apply Pick.tl)); done)) | (apply Sub.con; focus ((repeat (first | exact Pick.hd | apply Pick.tl)); done)) | (apply Sub.app; focus ((repeat (first | exact Pick.hd | apply Pick.tl)); done)) | apply Sub.drop)); done))) ⟨rfl, rfl⟩
theorem logSync (hall : ∀ x ∈ D.pend, (lkp x.1 D.files).isSome = true) (hu : D.used ≤ 1000000000) (hn : D.pend.length ≤ 100000000) (hw : Owns e w As) (hp : Pick As A F) (hq : Has e F (logB l p base gen size)) (hD : DiskA p D A) :
    Calls Tryz.prog 73 #[.pointer (some ⟨l, 0, none⟩)] w (Ret e fun u Bs => u = .tuple #[] ∧ ∃ A', DiskA p D.sync A' ∧ usedF D.sync.files = usedF D.files ∧ Bs = A' :: F) := by
  refine enter Tryz.func73 rfl Tryz.ntmps73 (hw.pick hp) rfl ?_
  refine Cod.region ?_
  refine Ops.val (opV_move rfl) rfl ?_
  refine Ops.val (opV_nil rfl) rfl ?_
  refine Ops.val (opV_field Fx.fld_228_0 rfl) rfl ?_
  refine Ops.val (opV_load Fx.scal_24 rfl (cellOf hq.up (List.Mem.head _) rfl)) rfl ?_
  refine Ops.call rfl (opC_call Fx.cal_38 rfl (fun w hw => sync_spec hall hu hn hw .hd hD)) rfl ?_
  rintro v6 _ ⟨rfl, A', hA', hus, rfl⟩
  refine Ops.nil ?_
  exact Ex.end0 rfl (fun _ h => h.subs (by first | ((repeat (first | exact Sub.refl | exact Sub.nil | apply Sub.emp | (apply Sub.cons; focus ((repeat (first | exact Pick.hd | apply Pick.tl)); done)) | (apply Sub.con; focus ((repeat (first | exact Pick.hd | apply Pick.tl)); done)) | (apply Sub.app; focus ((repeat (first | exact Pick.hd | apply Pick.tl)); done)) | apply Sub.drop)); done) | ((repeat (first | rw [List.append_assoc] | rw [List.cons_append] | rw [List.nil_append] | rw [List.append_nil])); (repeat (first | exact Sub.refl | exact Sub.nil | apply Sub.emp | (apply Sub.cons; focus ((repeat (first | exact Pick.hd | apply Pick.tl)); done)) | (apply Sub.con; focus ((repeat (first | exact Pick.hd | apply Pick.tl)); done)) | (apply Sub.app; focus ((repeat (first | exact Pick.hd | apply Pick.tl)); done)) | apply Sub.drop)); done))) ⟨rfl, A', hA', hus, rfl⟩
theorem logSize (hw : Owns e w As) (hq : Has e As (logB l p base gen size)) : Calls Tryz.prog 132 #[.pointer (some ⟨l, 0, none⟩)] w (Ret e fun u Bs => u = .int .i64 (size : Int) ∧ Bs = As) := by
  refine enter Tryz.func132 rfl Tryz.ntmps132 hw rfl ?_
  refine Cod.seq ?_
  refine Cod.region ?_
  refine Ops.val (opV_assign rfl) rfl ?_
  refine Ops.nil ?_
  refine Ex.next ?_
  refine Cod.seq ?_
  refine Cod.region ?_
  refine Ops.val (opV_move rfl) rfl ?_
  refine Ops.val (opV_nil rfl) rfl ?_
  refine Ops.val (opV_field Fx.fld_228_3 rfl) rfl ?_
  refine Ops.val (opV_load Fx.scal_3 rfl (cellOf hq (List.Mem.head _) rfl)) rfl ?_
  refine Ops.val (opV_assign rfl) rfl ?_
  refine Ops.nil ?_
  refine Ex.next ?_
  refine Cod.ret ?_
  exact Ex.ret1 rfl rfl (fun _ h => h.subs (by first | ((repeat (first | exact Sub.refl | exact Sub.nil | apply Sub.emp | (apply Sub.cons; focus ((repeat (first | exact Pick.hd | apply Pick.tl)); done)) | (apply Sub.con; focus ((repeat (first | exact Pick.hd | apply Pick.tl)); done)) | (apply Sub.app; focus ((repeat (first | exact Pick.hd | apply Pick.tl)); done)) | apply Sub.drop)); done) | ((repeat (first | rw [List.append_assoc] | rw [List.cons_append] | rw [List.nil_append] | rw [List.append_nil])); (repeat (first | exact Sub.refl | exact Sub.nil | apply Sub.emp | (apply Sub.cons; focus ((repeat (first | exact Pick.hd | apply Pick.tl)); done)) | (apply Sub.con; focus ((repeat (first | exact Pick.hd | apply Pick.tl)); done)) | (apply Sub.app; focus ((repeat (first | exact Pick.hd | apply Pick.tl)); done)) | apply Sub.drop)); done))) ⟨rfl, rfl⟩
end
end Go.Proofs.YteejmoldhbfdnaaGreatDoor.Wal
