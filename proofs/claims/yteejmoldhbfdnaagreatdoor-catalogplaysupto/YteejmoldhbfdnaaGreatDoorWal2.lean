/- Package wal: generation, Renew, Open. -/
import Derived.Test.YteejmoldhbfdnaaGreatDoorNum
import Derived.Test.YteejmoldhbfdnaaGreatDoorKit2
import Derived.Test.YteejmoldhbfdnaaGreatDoorDiskL
namespace Go.Proofs.YteejmoldhbfdnaaGreatDoor.Wal2
open Go.W Go.RowKit Lib1 Oct OctR Seal Disk Disk2 Wal Num
namespace Fx
theorem cal_134 : callable Tryz.prog 134 = true := by kernel_rfl
theorem cal_147 : callable Tryz.prog 147 = true := by kernel_rfl
theorem cal_149 : callable Tryz.prog 149 = true := by kernel_rfl
theorem cal_201 : callable Tryz.prog 201 = true := by kernel_rfl
theorem cal_202 : callable Tryz.prog 202 = true := by kernel_rfl
theorem cal_38 : callable Tryz.prog 38 = true := by kernel_rfl
theorem fld_228_0 : fieldOff Tryz.prog 228 0 = some 0 := by kernel_rfl
theorem fld_228_1 : fieldOff Tryz.prog 228 1 = some 1 := by kernel_rfl
theorem fld_228_2 : fieldOff Tryz.prog 228 2 = some 2 := by kernel_rfl
theorem fld_228_3 : fieldOff Tryz.prog 228 3 = some 3 := by kernel_rfl
theorem if_283 : Tryz.prog.isIface 283 = true := by kernel_rfl
theorem scal_24 : scalarB Tryz.prog 24 = true := by kernel_rfl
theorem scal_3 : scalarB Tryz.prog 3 = true := by kernel_rfl
theorem scal_9 : scalarB Tryz.prog 9 = true := by kernel_rfl
theorem sz1_3 : (Tryz.prog.info? 3).map (·.size) = some 1 := by kernel_rfl

end Fx
/-- Which generation of a log a file is. -/
def GenR (base nm : Str) (g : Nat) : Prop := (g = 0 ∨ (1 ≤ g ∧ g ≤ 999999999 ∧ nm = fileF base g)) ∧ ∀ n, 1 ≤ n → n ≤ 999999999 → nm = fileF base n → g = n
section
variable {e : Ctx} {w : World} {As F G : List Hp} {A B : Hp} {p l gen size k : Nat} {base nm rec_ : Str} {v : Value} {D : DK}
theorem generation_spec {d : Nat} (hG : Glob e) (hE : Kit.HasErr e) (hb : okBase base) (hn : nm.length ≤ 1000) (hw : Owns e w As) (hA : Has e As (logB l d base gen size)) :
    Calls Tryz.prog 144 #[.pointer (some ⟨l, 0, none⟩), S nm] w (Ret e fun u Bs => ∃ g : Nat, u = .int .i64 (g : Int) ∧ GenR base nm g ∧ Bs = As) := by
  have hb2 := hb.2.1
  refine enter Tryz.func144 rfl Tryz.ntmps144 hw rfl ?_
  refine Cod.seq ?_
  refine Cod.region ?_
  refine Ops.val (opV_assign rfl) rfl ?_
  refine Ops.nil ?_
  refine Ex.next ?_
  refine Cod.seq ?_
  refine Cod.region ?_
  refine Ops.val (opV_move rfl) rfl ?_
  refine Ops.val (opV_move rfl) rfl ?_
  refine Ops.val (opV_nil rfl) rfl ?_
  refine Ops.val (opV_field Fx.fld_228_1 rfl) rfl ?_
  refine Ops.val (opV_load Fx.scal_9 rfl (cellOf hA (List.Mem.head _) rfl)) rfl ?_
  refine Ops.val (opV_sadd rfl rfl (by simp <;> omega)) rfl ?_
  refine Ops.call rfl (opC_call Fx.cal_201 rfl (fun w hw => Kit.cutPrefix (s := nm) (t := base ++ [46]) (by omega) hw)) rfl ?_
  rintro v16 _ ⟨rfl, rfl⟩
  refine Ops.val (opV_move rfl) rfl ?_
  refine Ops.val (opV_extract rfl rfl) rfl ?_
  refine Ops.val (opV_extract rfl rfl) rfl ?_
  refine Ops.val (opV_assign rfl) rfl ?_
  refine Ops.val (opV_assign rfl) rfl ?_
  refine Ops.nil ?_
  refine Ex.next ?_
  refine Cod.seq ?_
  refine Cod.region ?_
  refine Ops.val (opV_move rfl) rfl ?_
  refine Ops.call rfl (opC_call Fx.cal_202 rfl (fun w hw => Kit.atoi hE (by split <;> (try simp) <;> omega) hw)) rfl ?_
  rintro v21 _ ⟨k, err, rfl, hr, rfl⟩
  refine Ops.val (opV_move rfl) rfl ?_
  refine Ops.val (opV_extract rfl rfl) rfl ?_
  refine Ops.val (opV_extract rfl rfl) rfl ?_
  refine Ops.val (opV_assign rfl) rfl ?_
  refine Ops.val (opV_assign rfl) rfl ?_
  refine Ops.nil ?_
  refine Ex.next ?_
  refine Cod.seq ?_
  refine Cod.seq ?_
  refine Cod.region ?_
  refine Ops.val (opV_move rfl) rfl ?_
  refine Ops.val (opV_not rfl) rfl ?_
  refine Ops.val (opV_move rfl) rfl ?_
  refine Ops.cases 26 rfl (fun hp => ?_) (fun hp => ?_)
  · skip
    refine Ops.skipg rfl rfl ?_
    refine Ops.skipg rfl rfl ?_
    refine Ops.val (opV_pickT rfl rfl) rfl ?_
    refine Ops.val (opV_move rfl) rfl ?_
    refine Ops.skipg rfl rfl ?_
    refine Ops.skipg rfl rfl ?_
    refine Ops.val (opV_pickT rfl rfl) rfl ?_
    refine Ops.val (opV_move rfl) rfl ?_
    refine Ops.skipg rfl rfl ?_
    refine Ops.skipg rfl rfl ?_
    refine Ops.val (opV_pickT rfl rfl) rfl ?_
    refine Ops.val (opV_move rfl) rfl ?_
    refine Ops.skipg rfl rfl ?_
    refine Ops.skipg rfl rfl ?_
    refine Ops.skipg rfl rfl ?_
    refine Ops.skipg rfl rfl ?_
    refine Ops.skipg rfl rfl ?_
    refine Ops.val (opV_pickT rfl rfl) rfl ?_
    refine Ops.nil ?_
    refine Ex.next ?_
    refine Cod.condT rfl ?_
    refine Cod.seq ?_
    refine Cod.region ?_
    refine Ops.val (opV_assign rfl) rfl ?_
    refine Ops.nil ?_
    refine Ex.next ?_
    refine Cod.ret ?_
    refine Ex.thenRet ?_
    exact Ex.ret1 rfl rfl (fun _ h => h.subs (by first | ((repeat (first | exact Sub.refl | exact Sub.nil | apply Sub.emp | (apply Sub.cons; focus ((repeat (first | exact Pick.hd | apply Pick.tl)); done)) | (apply Sub.con; focus ((repeat (first | exact Pick.hd | apply Pick.tl)); done)) | (apply Sub.app; focus ((repeat (first | exact Pick.hd | apply Pick.tl)); done)) | apply Sub.drop)); done) | ((repeat (first | rw [List.append_assoc] | rw [List.cons_append] | rw [List.nil_append] | rw [List.append_nil])); (repeat (first | exact Sub.refl | exact Sub.nil | apply Sub.emp | (apply Sub.cons; focus ((repeat (first | exact Pick.hd | apply Pick.tl)); done)) | (apply Sub.con; focus ((repeat (first | exact Pick.hd | apply Pick.tl)); done)) | (apply Sub.app; focus ((repeat (first | exact Pick.hd | apply Pick.tl)); done)) | apply Sub.drop)); done))) ⟨0, rfl, ⟨.inl rfl, fun n h1 h2 h3 => by rw [h3, (file_pre base n).1] at hp; cases hp⟩, rfl⟩
  · skip
    have hp' : Kit.hasPre (base ++ [46]) nm = true := by simpa using hp
    rw [hp', if_pos rfl] at hr
    rcases hr with ⟨rfl, hok⟩ | ⟨⟨tt, xx, rfl⟩, hno⟩
    · skip
      refine Ops.valg rfl (opV_move rfl) rfl ?_
      refine Ops.valg rfl (opV_ifneq_nil Fx.if_283 rfl) rfl ?_
      refine Ops.val (opV_pickF rfl rfl) rfl ?_
      refine Ops.val (opV_move rfl) rfl ?_
      refine Ops.valg rfl (opV_move rfl) rfl ?_
      refine Ops.valg rfl (opV_lss rfl rfl (by first | exact decide_eq_true (by omega) | exact decide_eq_false (by omega) | rfl)) rfl ?_
      refine Ops.val (opV_pickF rfl rfl) rfl ?_
      refine Ops.val (opV_move rfl) rfl ?_
      refine Ops.cases 34 rfl (fun h1 => ?_) (fun h1 => ?_)
      · skip
        refine Ops.skipg rfl rfl ?_
        refine Ops.skipg rfl rfl ?_
        refine Ops.val (opV_pickT rfl rfl) rfl ?_
        refine Ops.val (opV_move rfl) rfl ?_
        refine Ops.skipg rfl rfl ?_
        refine Ops.skipg rfl rfl ?_
        refine Ops.skipg rfl rfl ?_
        refine Ops.skipg rfl rfl ?_
        refine Ops.skipg rfl rfl ?_
        refine Ops.val (opV_pickT rfl rfl) rfl ?_
        refine Ops.nil ?_
        refine Ex.next ?_
        refine Cod.condT rfl ?_
        refine Cod.seq ?_
        refine Cod.region ?_
        refine Ops.val (opV_assign rfl) rfl ?_
        refine Ops.nil ?_
        refine Ex.next ?_
        refine Cod.ret ?_
        refine Ex.thenRet ?_
        exact Ex.ret1 rfl rfl (fun _ h => h.subs (by first | ((repeat (first | exact Sub.refl | exact Sub.nil | apply Sub.emp | (apply Sub.cons; focus ((repeat (first | exact Pick.hd | apply Pick.tl)); done)) | (apply Sub.con; focus ((repeat (first | exact Pick.hd | apply Pick.tl)); done)) | (apply Sub.app; focus ((repeat (first | exact Pick.hd | apply Pick.tl)); done)) | apply Sub.drop)); done) | ((repeat (first | rw [List.append_assoc] | rw [List.cons_append] | rw [List.nil_append] | rw [List.append_nil])); (repeat (first | exact Sub.refl | exact Sub.nil | apply Sub.emp | (apply Sub.cons; focus ((repeat (first | exact Pick.hd | apply Pick.tl)); done)) | (apply Sub.con; focus ((repeat (first | exact Pick.hd | apply Pick.tl)); done)) | (apply Sub.app; focus ((repeat (first | exact Pick.hd | apply Pick.tl)); done)) | apply Sub.drop)); done))) ⟨0, rfl, ⟨.inl rfl, fun n n1 n2 n3 => by rw [n3, (file_pre base n).2, atoi_itoa (by omega)] at hok; cases hok; simp at h1; omega⟩, rfl⟩
      · skip
        refine Ops.valg rfl (opV_move rfl) rfl ?_
        refine Ops.valg rfl (opV_gtr rfl rfl (by first | exact decide_eq_true (by omega) | exact decide_eq_false (by omega) | rfl)) rfl ?_
        refine Ops.val (opV_pickF rfl rfl) rfl ?_
        refine Ops.val (opV_move rfl) rfl ?_
        refine Ops.cases 38 rfl (fun h2 => ?_) (fun h2 => ?_)
        · skip
          refine Ops.skipg rfl rfl ?_
          refine Ops.skipg rfl rfl ?_
          refine Ops.skipg rfl rfl ?_
          refine Ops.skipg rfl rfl ?_
          refine Ops.skipg rfl rfl ?_
          refine Ops.val (opV_pickT rfl rfl) rfl ?_
          refine Ops.nil ?_
          refine Ex.next ?_
          refine Cod.condT rfl ?_
          refine Cod.seq ?_
          refine Cod.region ?_
          refine Ops.val (opV_assign rfl) rfl ?_
          refine Ops.nil ?_
          refine Ex.next ?_
          refine Cod.ret ?_
          refine Ex.thenRet ?_
          exact Ex.ret1 rfl rfl (fun _ h => h.subs (by first | ((repeat (first | exact Sub.refl | exact Sub.nil | apply Sub.emp | (apply Sub.cons; focus ((repeat (first | exact Pick.hd | apply Pick.tl)); done)) | (apply Sub.con; focus ((repeat (first | exact Pick.hd | apply Pick.tl)); done)) | (apply Sub.app; focus ((repeat (first | exact Pick.hd | apply Pick.tl)); done)) | apply Sub.drop)); done) | ((repeat (first | rw [List.append_assoc] | rw [List.cons_append] | rw [List.nil_append] | rw [List.append_nil])); (repeat (first | exact Sub.refl | exact Sub.nil | apply Sub.emp | (apply Sub.cons; focus ((repeat (first | exact Pick.hd | apply Pick.tl)); done)) | (apply Sub.con; focus ((repeat (first | exact Pick.hd | apply Pick.tl)); done)) | (apply Sub.app; focus ((repeat (first | exact Pick.hd | apply Pick.tl)); done)) | apply Sub.drop)); done))) ⟨0, rfl, ⟨.inl rfl, fun n n1 n2 n3 => by rw [n3, (file_pre base n).2, atoi_itoa (by omega)] at hok; cases hok; simp at h2; omega⟩, rfl⟩
        · skip
          simp only [decide_eq_false_iff_not] at h1 h2
          obtain ⟨kn, rfl⟩ : ∃ kn : Nat, k = (kn : Int) := ⟨k.toNat, by omega⟩
          refine Ops.valg rfl (opV_move rfl) rfl ?_
          refine Ops.valg rfl (opV_move rfl) rfl ?_
          refine Ops.call rfl (opC_call Fx.cal_149 rfl (fun w hw => file_spec hG (by omega) (by have := (good_file hb (show kn ≤ 999999999 by omega)).2.1; omega) hw hA)) rfl ?_
          rintro v41 _ ⟨rfl, rfl⟩
          refine Ops.valg rfl (opV_move rfl) rfl ?_
          refine Ops.valg rfl (opV_sneq rfl rfl rfl) rfl ?_
          refine Ops.val (opV_pickF rfl rfl) rfl ?_
          refine Ops.nil ?_
          refine Ex.next ?_
          refine Cod.cond rfl (fun h3 => ?_) (fun h3 => ?_)
          · try simp at h3
            refine Cod.seq ?_
            refine Cod.region ?_
            refine Ops.val (opV_assign rfl) rfl ?_
            refine Ops.nil ?_
            refine Ex.next ?_
            refine Cod.ret ?_
            refine Ex.thenRet ?_
            exact Ex.ret1 rfl rfl (fun _ h => h.subs (by first | ((repeat (first | exact Sub.refl | exact Sub.nil | apply Sub.emp | (apply Sub.cons; focus ((repeat (first | exact Pick.hd | apply Pick.tl)); done)) | (apply Sub.con; focus ((repeat (first | exact Pick.hd | apply Pick.tl)); done)) | (apply Sub.app; focus ((repeat (first | exact Pick.hd | apply Pick.tl)); done)) | apply Sub.drop)); done) | ((repeat (first | rw [List.append_assoc] | rw [List.cons_append] | rw [List.nil_append] | rw [List.append_nil])); (repeat (first | exact Sub.refl | exact Sub.nil | apply Sub.emp | (apply Sub.cons; focus ((repeat (first | exact Pick.hd | apply Pick.tl)); done)) | (apply Sub.con; focus ((repeat (first | exact Pick.hd | apply Pick.tl)); done)) | (apply Sub.app; focus ((repeat (first | exact Pick.hd | apply Pick.tl)); done)) | apply Sub.drop)); done))) ⟨0, rfl, ⟨.inl rfl, fun n n1 n2 n3 => by rw [n3, (file_pre base n).2, atoi_itoa (by omega)] at hok; cases hok; exact absurd n3.symm (by simpa using h3)⟩, rfl⟩
          · try simp at h3
            refine Cod.skip ?_
            refine Ex.next ?_
            refine Cod.seq ?_
            refine Cod.region ?_
            refine Ops.val (opV_move rfl) rfl ?_
            refine Ops.val (opV_assign rfl) rfl ?_
            refine Ops.nil ?_
            refine Ex.next ?_
            refine Cod.ret ?_
            exact Ex.ret1 rfl rfl (fun _ h => h.subs (by first | ((repeat (first | exact Sub.refl | exact Sub.nil | apply Sub.emp | (apply Sub.cons; focus ((repeat (first | exact Pick.hd | apply Pick.tl)); done)) | (apply Sub.con; focus ((repeat (first | exact Pick.hd | apply Pick.tl)); done)) | (apply Sub.app; focus ((repeat (first | exact Pick.hd | apply Pick.tl)); done)) | apply Sub.drop)); done) | ((repeat (first | rw [List.append_assoc] | rw [List.cons_append] | rw [List.nil_append] | rw [List.append_nil])); (repeat (first | exact Sub.refl | exact Sub.nil | apply Sub.emp | (apply Sub.cons; focus ((repeat (first | exact Pick.hd | apply Pick.tl)); done)) | (apply Sub.con; focus ((repeat (first | exact Pick.hd | apply Pick.tl)); done)) | (apply Sub.app; focus ((repeat (first | exact Pick.hd | apply Pick.tl)); done)) | apply Sub.drop)); done))) ⟨kn, rfl, ⟨.inr ⟨by omega, by omega, by simpa using Eq.symm (by simpa using h3)⟩, fun n n1 n2 n3 => by rw [n3, (file_pre base n).2, atoi_itoa (by omega)] at hok; cases hok; rfl⟩, rfl⟩
    · skip
      refine Ops.valg rfl (opV_move rfl) rfl ?_
      refine Ops.valg rfl (opV_ifneq_iface Fx.if_283 rfl) rfl ?_
      refine Ops.val (opV_pickF rfl rfl) rfl ?_
      refine Ops.val (opV_move rfl) rfl ?_
      refine Ops.skipg rfl rfl ?_
      refine Ops.skipg rfl rfl ?_
      refine Ops.val (opV_pickT rfl rfl) rfl ?_
      refine Ops.val (opV_move rfl) rfl ?_
      refine Ops.skipg rfl rfl ?_
      refine Ops.skipg rfl rfl ?_
      refine Ops.val (opV_pickT rfl rfl) rfl ?_
      refine Ops.val (opV_move rfl) rfl ?_
      refine Ops.skipg rfl rfl ?_
      refine Ops.skipg rfl rfl ?_
      refine Ops.skipg rfl rfl ?_
      refine Ops.skipg rfl rfl ?_
      refine Ops.skipg rfl rfl ?_
      refine Ops.val (opV_pickT rfl rfl) rfl ?_
      refine Ops.nil ?_
      refine Ex.next ?_
      refine Cod.condT rfl ?_
      refine Cod.seq ?_
      refine Cod.region ?_
      refine Ops.val (opV_assign rfl) rfl ?_
      refine Ops.nil ?_
      refine Ex.next ?_
      refine Cod.ret ?_
      refine Ex.thenRet ?_
      exact Ex.ret1 rfl rfl (fun _ h => h.subs (by first | ((repeat (first | exact Sub.refl | exact Sub.nil | apply Sub.emp | (apply Sub.cons; focus ((repeat (first | exact Pick.hd | apply Pick.tl)); done)) | (apply Sub.con; focus ((repeat (first | exact Pick.hd | apply Pick.tl)); done)) | (apply Sub.app; focus ((repeat (first | exact Pick.hd | apply Pick.tl)); done)) | apply Sub.drop)); done) | ((repeat (first | rw [List.append_assoc] | rw [List.cons_append] | rw [List.nil_append] | rw [List.append_nil])); (repeat (first | exact Sub.refl | exact Sub.nil | apply Sub.emp | (apply Sub.cons; focus ((repeat (first | exact Pick.hd | apply Pick.tl)); done)) | (apply Sub.con; focus ((repeat (first | exact Pick.hd | apply Pick.tl)); done)) | (apply Sub.app; focus ((repeat (first | exact Pick.hd | apply Pick.tl)); done)) | apply Sub.drop)); done))) ⟨0, rfl, ⟨.inl rfl, fun n n1 n2 n3 => by rw [n3, (file_pre base n).2] at hno; exact absurd (atoi_itoa (by omega)) (hno _)⟩, rfl⟩

/-- A snapshot stands in the place of all records. -/
def renewD (D : DK) (base : Str) (gen : Nat) (rec_ : Str) : DK := { (D.append (fileF base (gen + 1)) (wrapped rec_)).sync with files := del (fileF base gen) (D.append (fileF base (gen + 1)) (wrapped rec_)).sync.files }
theorem renew_ok (hG : Glob e) (hb : okBase base) (hk : gen ≤ 999999998) (hu : D.used ≤ 900000000) (hn : D.pend.length < 100000000) (hpo : PendOK D) (hr : D.room ≤ 9223372036854775807) (hl : rec_.length ≤ 1048576) (hf : (D.used : Int) + (wrapped rec_).length ≤ D.room) (hold : (lkp (fileF base gen) D.files).isSome = true)
    {m : Nat} (hm : m = rec_.length) (hw : Owns e w As) (hp : Pick As A F) (hq : Pick F (logB l p base gen size) G) (hD : DiskA p D A) (hB : Has e G B) (hv : Sl B 1 v m (bcells rec_)) :
    Calls Tryz.prog 83 #[.pointer (some ⟨l, 0, none⟩), v] w
      (Ret e fun u Bs => u = .int .i64 0 ∧ ∃ A', DiskA p (renewD D base gen rec_) A' ∧ Bs = A' :: logB l p base (gen + 1) (wrapped rec_).length :: G) := by
  have hwl := wrapped_length rec_
  have hg := good_file (n := gen + 1) hb (by omega)
  have hg0 := good_file (n := gen) hb (by omega)
  have h1 : (lkp (fileF base gen) (D.append (fileF base (gen + 1)) (wrapped rec_)).sync.files).isSome = true := by rw [sync_some]; exact append_some hold
  obtain ⟨⟨d, s⟩, h2⟩ := Option.isSome_iff_exists.1 h1
  have hus := append_used (D := D) (nm := fileF base (gen + 1)) (b := wrapped rec_)
  have hups := append_pend (D := D) (nm := fileF base (gen + 1)) (b := wrapped rec_)
  have husy := sync_used (D := D.append (fileF base (gen + 1)) (wrapped rec_))
  have hgl := hg.2.1
  have hgl0 := hg0.2.1
  refine enter Tryz.func83 rfl Tryz.ntmps83 (hw.pick2 hp hq) rfl ?_
  refine Cod.seq ?_
  refine Cod.region ?_
  refine Ops.val (opV_assign rfl) rfl ?_
  refine Ops.nil ?_
  refine Ex.next ?_
  refine Cod.seq ?_
  refine Cod.seq ?_
  refine Cod.region ?_
  refine Ops.val (opV_move rfl) rfl ?_
  refine Ops.val (opV_nil rfl) rfl ?_
  refine Ops.val (opV_field Fx.fld_228_2 rfl) rfl ?_
  refine Ops.val (opV_load Fx.scal_3 rfl (by repeat (first | exact Cell.one rfl | assumption | apply Cell.tl))) rfl ?_
  refine Ops.val (opV_eql rfl rfl (by first | exact decide_eq_true (by omega) | exact decide_eq_false (by omega) | rfl)) rfl ?_
  refine Ops.nil ?_
  refine Ex.next ?_
  refine Cod.condF rfl ?_
  refine Cod.skip ?_
  refine Ex.next ?_
  refine Cod.seq ?_
  refine Cod.region ?_
  refine Ops.val (opV_move rfl) rfl ?_
  refine Ops.val (opV_move rfl) rfl ?_
  refine Ops.val (opV_nil rfl) rfl ?_
  refine Ops.val (opV_field Fx.fld_228_2 rfl) rfl ?_
  refine Ops.val (opV_load Fx.scal_3 rfl (by repeat (first | exact Cell.one rfl | assumption | apply Cell.tl))) rfl ?_
  refine Ops.val (opV_add64 rfl rfl (by omega)) rfl ?_
  rw [show ((gen : Int) + 1) = ((gen + 1 : Nat) : Int) by omega]
  refine Ops.val (opV_move rfl) rfl ?_
  refine Ops.call rfl (opC_call Fx.cal_134 rfl (fun w hw => put_ok hG (by omega) hg hu (by omega) hr hl hf hm hw .hd (.mem (by repeat (first | exact List.Mem.head _ | apply List.Mem.tail))) hD hB.up hv)) rfl ?_
  rintro v20 _ ⟨rfl, A1, hA1, rfl⟩
  refine Ops.val (opV_move rfl) rfl ?_
  refine Ops.val (opV_extract rfl rfl) rfl ?_
  refine Ops.val (opV_extract rfl rfl) rfl ?_
  refine Ops.val (opV_assign rfl) rfl ?_
  refine Ops.val (opV_assign rfl) rfl ?_
  refine Ops.nil ?_
  refine Ex.next ?_
  refine Cod.seq ?_
  refine Cod.seq ?_
  refine Cod.region ?_
  refine Ops.val (opV_move rfl) rfl ?_
  refine Ops.val (opV_neq rfl rfl (by first | exact decide_eq_true (by omega) | exact decide_eq_false (by omega) | rfl)) rfl ?_
  refine Ops.nil ?_
  refine Ex.next ?_
  refine Cod.condF rfl ?_
  refine Cod.skip ?_
  refine Ex.next ?_
  refine Cod.seq ?_
  refine Cod.region ?_
  refine Ops.val (opV_move rfl) rfl ?_
  refine Ops.val (opV_nil rfl) rfl ?_
  refine Ops.val (opV_field Fx.fld_228_0 rfl) rfl ?_
  refine Ops.val (opV_load Fx.scal_24 rfl (by repeat (first | exact Cell.one rfl | assumption | apply Cell.tl))) rfl ?_
  refine Ops.call rfl (opC_call Fx.cal_38 rfl (fun w hw => sync_spec (append_ok hpo) (by omega) (by omega) hw .hd hA1)) rfl ?_
  rintro v30 _ ⟨rfl, A2, hA2, _, rfl⟩
  refine Ops.nil ?_
  refine Ex.next ?_
  refine Cod.seq ?_
  refine Cod.draw [3, 8] [0, 1, 2, 4, 5, 6, 7] (logB l p base gen size :: []) [0, 1, 2, 3, 4, 5, 6, 7, 8, 9, 10] M.mixed (by kernel_rfl) ?_
  refine AnyJ.valU rfl rfl rfl (opV_move rfl) rfl (fun _ _ _ h => h.2.elim) ?_
  refine AnyJ.valU rfl rfl rfl (opV_nil rfl) rfl (fun _ _ _ h => h.2.elim) ?_
  refine AnyJ.valU rfl rfl rfl (opV_field Fx.fld_228_0 rfl) rfl (fun _ _ _ h => h.2.elim) ?_
  refine AnyJ.val rfl rfl (opV_load Fx.scal_24 rfl (by repeat (first | exact Cell.one rfl | assumption | apply Cell.tl))) rfl (fun _ _ _ h => h.2.elim) (fun _ h => h.subs (by first | ((repeat (first | exact Sub.refl | exact Sub.nil | apply Sub.emp | (apply Sub.cons; focus ((repeat (first | exact Pick.hd | apply Pick.tl)); done)) | (apply Sub.con; focus ((repeat (first | exact Pick.hd | apply Pick.tl)); done)) | (apply Sub.app; focus ((repeat (first | exact Pick.hd | apply Pick.tl)); done)) | apply Sub.drop)); done) | ((repeat (first | rw [List.append_assoc] | rw [List.cons_append] | rw [List.nil_append] | rw [List.append_nil])); (repeat (first | exact Sub.refl | exact Sub.nil | apply Sub.emp | (apply Sub.cons; focus ((repeat (first | exact Pick.hd | apply Pick.tl)); done)) | (apply Sub.con; focus ((repeat (first | exact Pick.hd | apply Pick.tl)); done)) | (apply Sub.app; focus ((repeat (first | exact Pick.hd | apply Pick.tl)); done)) | apply Sub.drop)); done))) ?_
  refine AnyJ.valU rfl rfl rfl (opV_move rfl) rfl (fun _ _ _ h => h.2.elim) ?_
  refine AnyJ.valU rfl rfl rfl (opV_move rfl) rfl (fun _ _ _ h => h.2.elim) ?_
  refine AnyJ.valU rfl rfl rfl (opV_nil rfl) rfl (fun _ _ _ h => h.2.elim) ?_
  refine AnyJ.valU rfl rfl rfl (opV_field Fx.fld_228_2 rfl) rfl (fun _ _ _ h => h.2.elim) ?_
  refine AnyJ.val rfl rfl (opV_load Fx.scal_3 rfl (by repeat (first | exact Cell.one rfl | assumption | apply Cell.tl))) rfl (fun _ _ _ h => h.2.elim) (fun _ h => h.subs (by first | ((repeat (first | exact Sub.refl | exact Sub.nil | apply Sub.emp | (apply Sub.cons; focus ((repeat (first | exact Pick.hd | apply Pick.tl)); done)) | (apply Sub.con; focus ((repeat (first | exact Pick.hd | apply Pick.tl)); done)) | (apply Sub.app; focus ((repeat (first | exact Pick.hd | apply Pick.tl)); done)) | apply Sub.drop)); done) | ((repeat (first | rw [List.append_assoc] | rw [List.cons_append] | rw [List.nil_append] | rw [List.append_nil])); (repeat (first | exact Sub.refl | exact Sub.nil | apply Sub.emp | (apply Sub.cons; focus ((repeat (first | exact Pick.hd | apply Pick.tl)); done)) | (apply Sub.con; focus ((repeat (first | exact Pick.hd | apply Pick.tl)); done)) | (apply Sub.app; focus ((repeat (first | exact Pick.hd | apply Pick.tl)); done)) | apply Sub.drop)); done))) ?_
  refine AnyJ.call rfl rfl (opC_call Fx.cal_149 rfl (fun w hw => file_spec (base := base) (gen := gen) (size := size) (d := p) hG (by omega) (by omega) hw (.mem (by repeat (first | exact List.Mem.head _ | apply List.Mem.tail))))) rfl ?_
  rintro v40 _ ⟨rfl, rfl⟩
  refine ⟨(by first | (intro _ _ h; refine h.subs ?_; (repeat (first | exact Sub.refl | exact Sub.nil | apply Sub.emp | (apply Sub.cons; focus ((repeat (first | exact Pick.hd | apply Pick.tl)); done)) | (apply Sub.con; focus ((repeat (first | exact Pick.hd | apply Pick.tl)); done)) | (apply Sub.app; focus ((repeat (first | exact Pick.hd | apply Pick.tl)); done)) | apply Sub.drop)); done) | exact lead_no (by kernel_rfl)), ?_⟩
  refine AnyJ.call rfl rfl (opC_call Fx.cal_147 rfl (fun w hw => remove_spec h2 sync_pend (by omega) hw .hd hA2)) rfl ?_
  rintro v41 _ ⟨rfl, A3, hA3, rfl⟩
  refine ⟨(by first | (intro _ _ h; refine h.subs ?_; (repeat (first | exact Sub.refl | exact Sub.nil | apply Sub.emp | (apply Sub.cons; focus ((repeat (first | exact Pick.hd | apply Pick.tl)); done)) | (apply Sub.con; focus ((repeat (first | exact Pick.hd | apply Pick.tl)); done)) | (apply Sub.app; focus ((repeat (first | exact Pick.hd | apply Pick.tl)); done)) | apply Sub.drop)); done) | exact lead_no (by kernel_rfl)), ?_⟩
  refine AnyJ.nil ?_
  refine Ex.next ?_
  refine Cod.seq ?_
  refine Cod.region ?_
  refine Ops.val (opV_move rfl) rfl ?_
  refine Ops.val (opV_nil rfl) rfl ?_
  refine Ops.val (opV_field Fx.fld_228_2 rfl) rfl ?_
  refine Ops.val (opV_load Fx.scal_3 rfl (by repeat (first | exact Cell.one rfl | assumption | apply Cell.tl))) rfl ?_
  refine Ops.val (opV_add64 rfl rfl (by omega)) rfl ?_
  refine Ops.val (opV_nil rfl) rfl ?_
  refine Ops.val (opV_field Fx.fld_228_2 rfl) rfl ?_
  refine Ops.st rfl (opS_store Fx.scal_3 Fx.sz1_3 rfl rfl (by first | rfl | assumption | exact Row.one (by assumption) | exact Sl.one (by assumption)) rfl (by repeat (first | exact Upd.hd | apply Upd.tl)) (by repeat (first | exact LSet.hd | apply LSet.tl))) ?_
  refine Ops.nil ?_
  refine Ex.next ?_
  refine Cod.seq ?_
  refine Cod.region ?_
  refine Ops.val (opV_move rfl) rfl ?_
  refine Ops.val (opV_move rfl) rfl ?_
  refine Ops.val (opV_nil rfl) rfl ?_
  refine Ops.val (opV_field Fx.fld_228_3 rfl) rfl ?_
  refine Ops.st rfl (opS_store Fx.scal_3 Fx.sz1_3 rfl rfl (by first | rfl | assumption | exact Row.one (by assumption) | exact Sl.one (by assumption)) rfl (by repeat (first | exact Upd.hd | apply Upd.tl)) (by repeat (first | exact LSet.hd | apply LSet.tl))) ?_
  refine Ops.nil ?_
  refine Ex.next ?_
  refine Cod.seq ?_
  refine Cod.region ?_
  refine Ops.val (opV_assign rfl) rfl ?_
  refine Ops.nil ?_
  refine Ex.next ?_
  refine Cod.ret ?_
  exact Ex.ret1 rfl rfl (fun _ h => h.subs (by first | ((repeat (first | exact Sub.refl | exact Sub.nil | apply Sub.emp | (apply Sub.cons; focus ((repeat (first | exact Pick.hd | apply Pick.tl)); done)) | (apply Sub.con; focus ((repeat (first | exact Pick.hd | apply Pick.tl)); done)) | (apply Sub.app; focus ((repeat (first | exact Pick.hd | apply Pick.tl)); done)) | apply Sub.drop)); done) | ((repeat (first | rw [List.append_assoc] | rw [List.cons_append] | rw [List.nil_append] | rw [List.append_nil])); (repeat (first | exact Sub.refl | exact Sub.nil | apply Sub.emp | (apply Sub.cons; focus ((repeat (first | exact Pick.hd | apply Pick.tl)); done)) | (apply Sub.con; focus ((repeat (first | exact Pick.hd | apply Pick.tl)); done)) | (apply Sub.app; focus ((repeat (first | exact Pick.hd | apply Pick.tl)); done)) | apply Sub.drop)); done))) ⟨rfl, A3, hA3, by simp [logB]⟩
theorem renew_full (hG : Glob e) (hb : okBase base) (hk : gen ≤ 999999998) (hu : D.used ≤ 900000000) (hr : D.room ≤ 9223372036854775807 ∧ -9223372036854775808 ≤ D.room) (hl : rec_.length ≤ 1048576) (hf : D.room < (D.used : Int) + (wrapped rec_).length)
    {m : Nat} (hm : m = rec_.length) (hw : Owns e w As) (hp : Has e As A) (hq : Has e As (logB l p base gen size)) (hD : DiskA p D A) (hB : Has e As B) (hv : Sl B 1 v m (bcells rec_)) :
    Calls Tryz.prog 83 #[.pointer (some ⟨l, 0, none⟩), v] w (Ret e fun u Bs => u = .int .i64 6 ∧ Bs = As) := by
  have hg := good_file (n := gen + 1) hb (by omega)
  refine enter Tryz.func83 rfl Tryz.ntmps83 hw rfl ?_
  refine Cod.seq ?_
  refine Cod.region ?_
  refine Ops.val (opV_assign rfl) rfl ?_
  refine Ops.nil ?_
  refine Ex.next ?_
  refine Cod.seq ?_
  refine Cod.seq ?_
  refine Cod.region ?_
  refine Ops.val (opV_move rfl) rfl ?_
  refine Ops.val (opV_nil rfl) rfl ?_
  refine Ops.val (opV_field Fx.fld_228_2 rfl) rfl ?_
  refine Ops.val (opV_load Fx.scal_3 rfl (cellOf hq (List.Mem.head _) rfl)) rfl ?_
  refine Ops.val (opV_eql rfl rfl (by first | exact decide_eq_true (by omega) | exact decide_eq_false (by omega) | rfl)) rfl ?_
  refine Ops.nil ?_
  refine Ex.next ?_
  refine Cod.condF rfl ?_
  refine Cod.skip ?_
  refine Ex.next ?_
  refine Cod.seq ?_
  refine Cod.region ?_
  refine Ops.val (opV_move rfl) rfl ?_
  refine Ops.val (opV_move rfl) rfl ?_
  refine Ops.val (opV_nil rfl) rfl ?_
  refine Ops.val (opV_field Fx.fld_228_2 rfl) rfl ?_
  refine Ops.val (opV_load Fx.scal_3 rfl (cellOf hq (List.Mem.head _) rfl)) rfl ?_
  refine Ops.val (opV_add64 rfl rfl (by omega)) rfl ?_
  rw [show ((gen : Int) + 1) = ((gen + 1 : Nat) : Int) by omega]
  refine Ops.val (opV_move rfl) rfl ?_
  refine Ops.call rfl (opC_call Fx.cal_134 rfl (fun w hw => put_full hG (by omega) hg hu hr hl hf hm hw hp hq hD hB hv)) rfl ?_
  rintro v20 _ ⟨rfl, rfl⟩
  refine Ops.val (opV_move rfl) rfl ?_
  refine Ops.val (opV_extract rfl rfl) rfl ?_
  refine Ops.val (opV_extract rfl rfl) rfl ?_
  refine Ops.val (opV_assign rfl) rfl ?_
  refine Ops.val (opV_assign rfl) rfl ?_
  refine Ops.nil ?_
  refine Ex.next ?_
  refine Cod.seq ?_
  refine Cod.seq ?_
  refine Cod.region ?_
  refine Ops.val (opV_move rfl) rfl ?_
  refine Ops.val (opV_neq rfl rfl (by first | exact decide_eq_true (by omega) | exact decide_eq_false (by omega) | rfl)) rfl ?_
  refine Ops.nil ?_
  refine Ex.next ?_
  refine Cod.condT rfl ?_
  refine Cod.seq ?_
  refine Cod.region ?_
  refine Ops.val (opV_move rfl) rfl ?_
  refine Ops.val (opV_assign rfl) rfl ?_
  refine Ops.nil ?_
  refine Ex.next ?_
  refine Cod.ret ?_
  refine Ex.thenRet ?_
  exact Ex.ret1 rfl rfl (fun _ h => h.subs (by first | ((repeat (first | exact Sub.refl | exact Sub.nil | apply Sub.emp | (apply Sub.cons; focus ((repeat (first | exact Pick.hd | apply Pick.tl)); done)) | (apply Sub.con; focus ((repeat (first | exact Pick.hd | apply Pick.tl)); done)) | (apply Sub.app; focus ((repeat (first | exact Pick.hd | apply Pick.tl)); done)) | apply Sub.drop)); done) | ((repeat (first | rw [List.append_assoc] | rw [List.cons_append] | rw [List.nil_append] | rw [List.append_nil])); (repeat (first | exact Sub.refl | exact Sub.nil | apply Sub.emp | (apply Sub.cons; focus ((repeat (first | exact Pick.hd | apply Pick.tl)); done)) | (apply Sub.con; focus ((repeat (first | exact Pick.hd | apply Pick.tl)); done)) | (apply Sub.app; focus ((repeat (first | exact Pick.hd | apply Pick.tl)); done)) | apply Sub.drop)); done))) ⟨rfl, rfl⟩
end
end Go.Proofs.YteejmoldhbfdnaaGreatDoor.Wal2
