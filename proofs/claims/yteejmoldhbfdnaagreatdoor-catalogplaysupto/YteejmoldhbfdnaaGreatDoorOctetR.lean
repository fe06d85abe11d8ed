/- Package octet: what is read back; only readings that succeed. -/
import Derived.Test.YteejmoldhbfdnaaGreatDoorOctet
namespace Go.Proofs.YteejmoldhbfdnaaGreatDoor.OctR
open Go.W Go.RowKit Lib1 Oct
namespace Fx
theorem cal_213 : callable Tryz.prog 213 = true := by kernel_rfl
theorem cal_214 : callable Tryz.prog 214 = true := by kernel_rfl
theorem cal_251 : callable Tryz.prog 251 = true := by kernel_rfl
theorem cal_61 : callable Tryz.prog 61 = true := by kernel_rfl
theorem fld_295_0 : fieldOff Tryz.prog 295 0 = some 0 := by kernel_rfl
theorem fld_295_1 : fieldOff Tryz.prog 295 1 = some 1 := by kernel_rfl
theorem fld_295_2 : fieldOff Tryz.prog 295 2 = some 2 := by kernel_rfl
theorem fld_295_3 : fieldOff Tryz.prog 295 3 = some 3 := by kernel_rfl
theorem scal_29 : scalarB Tryz.prog 29 = true := by kernel_rfl
theorem scal_3 : scalarB Tryz.prog 3 = true := by kernel_rfl
theorem scal_30 : scalarB Tryz.prog 30 = true := by kernel_rfl
theorem scal_5 : scalarB Tryz.prog 5 = true := by kernel_rfl
theorem sl_29 : slInfo Tryz.prog 29 = some (5, 1, 1, some (.int .u8 0)) := by kernel_rfl
theorem st_295 : stInfo Tryz.prog 295 = some (#[(.slice none 0 0), (.int .u8 0), (.int .i64 0), (.int .i64 0)], #[(0, 1), (1, 1), (2, 1), (3, 1)]) := by kernel_rfl
theorem sz1_29 : (Tryz.prog.info? 29).map (·.size) = some 1 := by kernel_rfl
theorem sz1_3 : (Tryz.prog.info? 3).map (·.size) = some 1 := by kernel_rfl
theorem sz1_5 : (Tryz.prog.info? 5).map (·.size) = some 1 := by kernel_rfl
theorem undS_5 : (Tryz.prog.underlying 5).isSome = true := by kernel_rfl
theorem und_2 : Tryz.prog.underlying 2 = some (.int .i64) := by kernel_rfl
theorem und_5 : Tryz.prog.underlying 5 = some (.int .u8) := by kernel_rfl
theorem und_9 : Tryz.prog.underlying 9 = some .string := by kernel_rfl

end Fx
/-- A Reader without an error: what is left. -/
def RdA (p : Nat) (bits : Int) (bs : Str) (A : Hp) : Prop :=
  ∃ v row R, Sl R 1 v bs.length (bcells bs) ∧ A = (p, .cells #[v, .int .u8 row, .int .i64 bits, .int .i64 0] 295) :: R
section
variable {e : Ctx} {w : World} {As F : List Hp} {A : Hp} {p : Nat} {bs : Str} {v : Value} {bt : Int}
theorem newReader {m : Nat} (hm : m = bs.length) (hw : Owns e w As) (hv : Sl A 1 v m (bcells bs)) (hA : Has e As A) (hl : bs.length ≤ 1000000000) : Calls Tryz.prog 150 #[v] w (Ret e fun u Bs => ∃ p A', u = .pointer (some ⟨p, 0, none⟩) ∧ RdA p 0 bs A' ∧ Bs = A' :: As) := by
  subst hm
  refine enter Tryz.func150 rfl Tryz.ntmps150 hw rfl ?_
  refine Cod.seq ?_
  refine Cod.region ?_
  refine Ops.val (opV_assign rfl) rfl ?_
  refine Ops.nil ?_
  refine Ex.next ?_
  refine Cod.seq ?_
  refine Cod.region ?_
  refine Ops.val (opV_move rfl) rfl ?_
  refine Ops.call rfl (opC_call Fx.cal_61 rfl (fun w hw => clone_bytes hw hv hA (bcells_one _) (by omega) (by omega))) rfl ?_
  rintro v4 _ ⟨R, hR, rfl⟩
  obtain ⟨aR, cR, rfl⟩ := hR.isSlice
  refine Ops.val (opV_build Fx.st_295 rfl (by first | (simp [fillL, vcells, putAt]; rfl) | (simp [fillL, vcells, putAt]; done) | rfl)) rfl ?_
  refine Ops.eff rfl (opE_box rfl) rfl ?_
  rintro _ _ ⟨b6, rfl, rfl⟩
  refine Ops.val (opV_assign rfl) rfl ?_
  refine Ops.nil ?_
  refine Ex.next ?_
  refine Cod.ret ?_
  exact Ex.ret1 rfl rfl (fun _ h => Owns.join (h.subs (by first | ((repeat (first | exact Sub.refl | exact Sub.nil | apply Sub.emp | (apply Sub.cons; focus ((repeat (first | exact Pick.hd | apply Pick.tl)); done)) | (apply Sub.con; focus ((repeat (first | exact Pick.hd | apply Pick.tl)); done)) | (apply Sub.app; focus ((repeat (first | exact Pick.hd | apply Pick.tl)); done)) | apply Sub.drop)); done) | ((repeat (first | rw [List.append_assoc] | rw [List.cons_append] | rw [List.nil_append] | rw [List.append_nil])); (repeat (first | exact Sub.refl | exact Sub.nil | apply Sub.emp | (apply Sub.cons; focus ((repeat (first | exact Pick.hd | apply Pick.tl)); done)) | (apply Sub.con; focus ((repeat (first | exact Pick.hd | apply Pick.tl)); done)) | (apply Sub.app; focus ((repeat (first | exact Pick.hd | apply Pick.tl)); done)) | apply Sub.drop)); done)))) ⟨b6, _, rfl, ⟨_, 0, R, hR.sl, rfl⟩, rfl⟩

theorem take_spec {k : Nat} {R : Hp} {row bits : Int} (hw : Owns e w ([(p, .cells #[v, .int .u8 row, .int .i64 bits, .int .i64 0] 295)] :: R :: F)) (hR : Sl R 1 v bs.length (bcells bs)) (hk : k ≤ bs.length) (_hl : bs.length ≤ 1000000000) :
    Calls Tryz.prog 213 #[.pointer (some ⟨p, 0, none⟩), .int .i64 k] w
      (Ret e fun u Bs => ∃ v', Sl R 1 v' (bs.length - k) (bcells (bs.drop k)) ∧ Sl R 1 u k (bcells (bs.take k)) ∧ Bs = [(p, .cells #[v', .int .u8 row, .int .i64 0, .int .i64 0] 295)] :: R :: F) := by
  refine enter Tryz.func213 rfl Tryz.ntmps213 hw rfl ?_
  refine Cod.seq ?_
  refine Cod.region ?_
  refine Ops.val (opV_assign rfl) rfl ?_
  refine Ops.nil ?_
  refine Ex.next ?_
  refine Cod.seq ?_
  refine Cod.region ?_
  refine Ops.val (opV_move rfl) rfl ?_
  refine Ops.val (opV_nil rfl) rfl ?_
  refine Ops.val (opV_field Fx.fld_295_2 rfl) rfl ?_
  refine Ops.st rfl (opS_store Fx.scal_3 Fx.sz1_3 rfl rfl (by first | rfl | assumption | exact Row.one (by assumption) | exact Sl.one (by assumption)) rfl (by repeat (first | exact Upd.hd | apply Upd.tl)) (by repeat (first | exact LSet.hd | apply LSet.tl))) ?_
  refine Ops.nil ?_
  refine Ex.next ?_
  refine Cod.seq ?_
  refine Cod.seq ?_
  refine Cod.region ?_
  refine Ops.val (opV_move rfl) rfl ?_
  refine Ops.val (opV_nil rfl) rfl ?_
  refine Ops.val (opV_field Fx.fld_295_3 rfl) rfl ?_
  refine Ops.val (opV_load Fx.scal_30 rfl (by repeat (first | exact Cell.one rfl | assumption | apply Cell.tl))) rfl ?_
  refine Ops.val (opV_eql rfl rfl (by first | exact decide_eq_true (by omega) | exact decide_eq_false (by omega) | rfl)) rfl ?_
  refine Ops.val (opV_move rfl) rfl ?_
  refine Ops.valg rfl (opV_move rfl) rfl ?_
  refine Ops.valg rfl (opV_lss rfl rfl (by first | exact decide_eq_true (by omega) | exact decide_eq_false (by omega) | rfl)) rfl ?_
  refine Ops.valg rfl (opV_move rfl) rfl ?_
  refine Ops.valg rfl (opV_move rfl) rfl ?_
  refine Ops.valg rfl (opV_move rfl) rfl ?_
  refine Ops.valg rfl (opV_nil rfl) rfl ?_
  refine Ops.valg rfl (opV_field Fx.fld_295_0 rfl) rfl ?_
  refine Ops.valg rfl (opV_load Fx.scal_29 rfl (by repeat (first | exact Cell.one rfl | assumption | apply Cell.tl))) rfl ?_
  refine Ops.valg rfl (opV_len Fx.sl_29 rfl (by first | exact ⟨_, _, rfl⟩ | exact Sl.isSlice (by assumption) | exact (Row.sl (by assumption)).isSlice)) rfl ?_
  refine Ops.valg rfl (opV_gtr rfl rfl (by first | exact decide_eq_true (by omega) | exact decide_eq_false (by omega) | rfl)) rfl ?_
  refine Ops.valg rfl (opV_pickF rfl rfl) rfl ?_
  refine Ops.val (opV_pickT rfl rfl) rfl ?_
  refine Ops.nil ?_
  refine Ex.next ?_
  refine Cod.condF rfl ?_
  refine Cod.skip ?_
  refine Ex.next ?_
  refine Cod.seq ?_
  refine Cod.seq ?_
  refine Cod.region ?_
  refine Ops.val (opV_move rfl) rfl ?_
  refine Ops.val (opV_nil rfl) rfl ?_
  refine Ops.val (opV_field Fx.fld_295_3 rfl) rfl ?_
  refine Ops.val (opV_load Fx.scal_30 rfl (by repeat (first | exact Cell.one rfl | assumption | apply Cell.tl))) rfl ?_
  refine Ops.val (opV_neq rfl rfl (by first | exact decide_eq_true (by omega) | exact decide_eq_false (by omega) | rfl)) rfl ?_
  refine Ops.nil ?_
  refine Ex.next ?_
  refine Cod.condF rfl ?_
  refine Cod.skip ?_
  refine Ex.next ?_
  refine Cod.seq ?_
  refine Cod.region ?_
  refine Ops.val (opV_move rfl) rfl ?_
  refine Ops.val (opV_nil rfl) rfl ?_
  refine Ops.val (opV_field Fx.fld_295_0 rfl) rfl ?_
  refine Ops.val (opV_load Fx.scal_29 rfl (by repeat (first | exact Cell.one rfl | assumption | apply Cell.tl))) rfl ?_
  refine Ops.val (opV_move rfl) rfl ?_
  refine Ops.val (opV_move rfl) rfl ?_
  refine Ops.val (opV_slice3 Fx.sl_29 rfl hR (lo' := 0) (hi' := k) (mx' := k) rfl ⟨rfl, _, rfl⟩ ⟨rfl, _, rfl⟩ (by omega) (by omega) hk) rfl ?_
  refine Ops.val (opV_assign rfl) rfl ?_
  refine Ops.nil ?_
  refine Ex.next ?_
  refine Cod.seq ?_
  refine Cod.region ?_
  refine Ops.val (opV_move rfl) rfl ?_
  refine Ops.val (opV_move rfl) rfl ?_
  refine Ops.val (opV_nil rfl) rfl ?_
  refine Ops.val (opV_field Fx.fld_295_0 rfl) rfl ?_
  refine Ops.val (opV_load Fx.scal_29 rfl (by repeat (first | exact Cell.one rfl | assumption | apply Cell.tl))) rfl ?_
  refine Ops.val (opV_move rfl) rfl ?_
  refine Ops.val (opV_slice Fx.sl_29 rfl hR (lo' := k) (hi' := bs.length) ⟨_, rfl⟩ rfl hk (Nat.le_refl _)) rfl ?_
  refine Ops.val (opV_nil rfl) rfl ?_
  refine Ops.val (opV_field Fx.fld_295_0 rfl) rfl ?_
  refine Ops.st rfl (opS_store Fx.scal_29 Fx.sz1_29 rfl rfl (hR.rsl hk (Nat.le_refl _)).one rfl (by repeat (first | exact Upd.hd | apply Upd.tl)) (by repeat (first | exact LSet.hd | apply LSet.tl))) ?_
  refine Ops.nil ?_
  refine Ex.next ?_
  refine Cod.seq ?_
  refine Cod.region ?_
  refine Ops.val (opV_move rfl) rfl ?_
  refine Ops.val (opV_assign rfl) rfl ?_
  refine Ops.nil ?_
  refine Ex.next ?_
  refine Cod.ret ?_
  exact Ex.ret1 rfl rfl (fun _ h => h.subs (by first | ((repeat (first | exact Sub.refl | exact Sub.nil | apply Sub.emp | (apply Sub.cons; focus ((repeat (first | exact Pick.hd | apply Pick.tl)); done)) | (apply Sub.con; focus ((repeat (first | exact Pick.hd | apply Pick.tl)); done)) | (apply Sub.app; focus ((repeat (first | exact Pick.hd | apply Pick.tl)); done)) | apply Sub.drop)); done) | ((repeat (first | rw [List.append_assoc] | rw [List.cons_append] | rw [List.nil_append] | rw [List.append_nil])); (repeat (first | exact Sub.refl | exact Sub.nil | apply Sub.emp | (apply Sub.cons; focus ((repeat (first | exact Pick.hd | apply Pick.tl)); done)) | (apply Sub.con; focus ((repeat (first | exact Pick.hd | apply Pick.tl)); done)) | (apply Sub.app; focus ((repeat (first | exact Pick.hd | apply Pick.tl)); done)) | apply Sub.drop)); done))) ⟨_, by have := hR.rsl hk (Nat.le_refl _); simpa [bcells, ← List.map_drop, ← List.map_take, List.take_of_length_le] using this, by have := hR.rsl3 (lo := 0) (hi := k) (mx := k) (by omega) hk (by omega) hk; simpa [bcells, ← List.map_take] using this, rfl⟩

/-- One octet more is read. -/
def step (n : Int) (c : UInt8) : Int := bitop .or .i64 (IntKind.i64.wrap (n * 2 ^ 8)) (IntKind.i64.wrap (c.toNat : Int))
def rd (n : Int) : Str → Int
  | [] => n
  | c :: cs => rd (step n c) cs
theorem rd_snoc (n : Int) (cs : Str) (c : UInt8) : rd n (cs ++ [c]) = step (rd n cs) c := by
  induction cs generalizing n with
  | nil => rfl
  | cons d ds ih => simp [rd, ih]
theorem bcells_get {p : Str} {i : Nat} {c : UInt8} (h : p[i]? = some c) : (bcells p)[i * 1]? = some (.int .u8 (c.toNat : Int)) := by
  simp [bcells, h]
theorem number_r {k : Nat} (hw : Owns e w As) (hp : Pick As A F) (hA : RdA p bt bs A) (hk : k ≤ bs.length) (hl : bs.length ≤ 1000000000) :
    Calls Tryz.prog 251 #[.pointer (some ⟨p, 0, none⟩), .int .i64 k] w
      (Ret e fun u Bs => u = .int .i64 (rd 0 (bs.take k)) ∧ ∃ A', RdA p 0 (bs.drop k) A' ∧ Bs = A' :: F) := by
  obtain ⟨v, row, R, hR, rfl⟩ := hA
  refine enter Tryz.func251 rfl Tryz.ntmps251 hw rfl ?_
  refine Cod.seq ?_
  refine Cod.region ?_
  refine Ops.val (opV_assign rfl) rfl ?_
  refine Ops.nil ?_
  refine Ex.next ?_
  refine Cod.seq ?_
  refine Cod.seq ?_
  refine Cod.region ?_
  refine Ops.val (opV_move rfl) rfl ?_
  refine Ops.val (opV_move rfl) rfl ?_
  refine Ops.call rfl (opC_call Fx.cal_213 rfl (fun w hw => take_spec (hw.pick hp).split hR hk hl)) rfl ?_
  rintro v9 _ ⟨v', hR', hU, rfl⟩
  refine Ops.val (opV_len Fx.sl_29 rfl (by first | exact ⟨_, _, rfl⟩ | exact Sl.isSlice (by assumption) | exact (Row.sl (by assumption)).isSlice)) rfl ?_
  refine Ops.val (opV_move rfl) rfl ?_
  refine Ops.nil ?_
  refine Ex.next ?_
  refine Cod.block ?_
  refine Cod.loop (X := Nat) (fun i => [(4, .int .i64 (rd 0 ((bs.take k).take i))), (9, v9), (10, .int .i64 k), (11, .int .i64 i)]) (fun i => [(p, .cells #[v', .int .u8 row, .int .i64 0, .int .i64 0] 295)] :: R :: F) (fun i => i ≤ k) (fun i => k - i) (0) ((Nat.zero_le _)) (by repeat (first | exact trivial | refine ⟨rfl, ?_⟩)) (fun _ h => h.subs (by first | ((repeat (first | exact Sub.refl | exact Sub.nil | apply Sub.emp | (apply Sub.cons; focus ((repeat (first | exact Pick.hd | apply Pick.tl)); done)) | (apply Sub.con; focus ((repeat (first | exact Pick.hd | apply Pick.tl)); done)) | (apply Sub.app; focus ((repeat (first | exact Pick.hd | apply Pick.tl)); done)) | apply Sub.drop)); done) | ((repeat (first | rw [List.append_assoc] | rw [List.cons_append] | rw [List.nil_append] | rw [List.append_nil])); (repeat (first | exact Sub.refl | exact Sub.nil | apply Sub.emp | (apply Sub.cons; focus ((repeat (first | exact Pick.hd | apply Pick.tl)); done)) | (apply Sub.con; focus ((repeat (first | exact Pick.hd | apply Pick.tl)); done)) | (apply Sub.app; focus ((repeat (first | exact Pick.hd | apply Pick.tl)); done)) | apply Sub.drop)); done))) ?_
  rintro i hi
  try dsimp only
  refine Cod.seq ?_
  refine Cod.region ?_
  refine Ops.val (opV_lss rfl rfl (by first | exact decide_eq_true (by omega) | exact decide_eq_false (by omega) | rfl)) rfl ?_
  refine Ops.nil ?_
  refine Ex.next ?_
  refine Cod.seq ?_
  refine Cod.cond rfl (fun hc => ?_) (fun hc => ?_)
  · try simp at hc
    have hlk : (bs.take k).length = k := by simp; omega
    obtain ⟨c, hcc⟩ : ∃ c, (bs.take k)[i]? = some c := ⟨_, List.getElem?_eq_getElem (by omega)⟩
    refine Cod.skip ?_
    refine Ex.next ?_
    refine Cod.seq ?_
    refine Cod.block ?_
    refine Cod.seq ?_
    refine Cod.region ?_
    refine Ops.val (opV_indexAddr Fx.sl_29 rfl hU (k := i) rfl (by omega)) rfl ?_
    refine Ops.val (opV_loadE Fx.scal_5 rfl hU (.mem (by repeat (first | exact List.Mem.head _ | apply List.Mem.tail))) (bcells_get hcc)) rfl ?_
    refine Ops.val (opV_assign rfl) rfl ?_
    refine Ops.nil ?_
    refine Ex.next ?_
    refine Cod.region ?_
    refine Ops.val (opV_move rfl) rfl ?_
    refine Ops.val (opV_shl (s := 8) rfl rfl (by simp [IntKind.bits])) rfl ?_
    refine Ops.val (opV_move rfl) rfl ?_
    refine Ops.val (opV_conv Fx.und_2 Fx.undS_5 rfl) rfl ?_
    refine Ops.val (opV_or' rfl rfl) rfl ?_
    have ht : rd 0 ((bs.take k).take (i + 1)) = step (rd 0 ((bs.take k).take i)) c := by
        rw [List.take_add_one, hcc, Option.toList_some, rd_snoc]
    unfold step at ht
    rw [← ht]
    refine Ops.val (opV_assign rfl) rfl ?_
    refine Ops.nil ?_
    refine Ex.blockNormal ?_
    refine Ex.next ?_
    refine Cod.region ?_
    refine Ops.val (opV_add64 rfl rfl (by omega)) rfl ?_
    refine Ops.val (opV_move rfl) rfl ?_
    refine Ops.nil ?_
    refine Ex.toN (fun _ _ hs => ⟨i + 1, (by omega), (by first | omega | (dsimp only; omega) | (simp; omega) | (simp; done)), hs⟩) (by repeat (first | exact trivial | refine ⟨rfl, ?_⟩)) (fun _ h => h.subs (by first | ((repeat (first | exact Sub.refl | exact Sub.nil | apply Sub.emp | (apply Sub.cons; focus ((repeat (first | exact Pick.hd | apply Pick.tl)); done)) | (apply Sub.con; focus ((repeat (first | exact Pick.hd | apply Pick.tl)); done)) | (apply Sub.app; focus ((repeat (first | exact Pick.hd | apply Pick.tl)); done)) | apply Sub.drop)); done) | ((repeat (first | rw [List.append_assoc] | rw [List.cons_append] | rw [List.nil_append] | rw [List.append_nil])); (repeat (first | exact Sub.refl | exact Sub.nil | apply Sub.emp | (apply Sub.cons; focus ((repeat (first | exact Pick.hd | apply Pick.tl)); done)) | (apply Sub.con; focus ((repeat (first | exact Pick.hd | apply Pick.tl)); done)) | (apply Sub.app; focus ((repeat (first | exact Pick.hd | apply Pick.tl)); done)) | apply Sub.drop)); done)))
  · try simp at hc
    obtain rfl : i = k := by omega
    rw [List.take_take, Nat.min_self]
    refine Cod.exit ?_
    refine Ex.thenExit ?_
    refine Ex.thenExit ?_
    refine Ex.blockHit ?_
    refine Ex.next ?_
    refine Cod.seq ?_
    refine Cod.region ?_
    refine Ops.val (opV_move rfl) rfl ?_
    refine Ops.val (opV_assign rfl) rfl ?_
    refine Ops.nil ?_
    refine Ex.next ?_
    refine Cod.ret ?_
    exact Ex.ret1 rfl rfl (fun _ h => Owns.join (h.subs (by first | ((repeat (first | exact Sub.refl | exact Sub.nil | apply Sub.emp | (apply Sub.cons; focus ((repeat (first | exact Pick.hd | apply Pick.tl)); done)) | (apply Sub.con; focus ((repeat (first | exact Pick.hd | apply Pick.tl)); done)) | (apply Sub.app; focus ((repeat (first | exact Pick.hd | apply Pick.tl)); done)) | apply Sub.drop)); done) | ((repeat (first | rw [List.append_assoc] | rw [List.cons_append] | rw [List.nil_append] | rw [List.append_nil])); (repeat (first | exact Sub.refl | exact Sub.nil | apply Sub.emp | (apply Sub.cons; focus ((repeat (first | exact Pick.hd | apply Pick.tl)); done)) | (apply Sub.con; focus ((repeat (first | exact Pick.hd | apply Pick.tl)); done)) | (apply Sub.app; focus ((repeat (first | exact Pick.hd | apply Pick.tl)); done)) | apply Sub.drop)); done)))) ⟨rfl, _, ⟨v', row, R, by simpa using hR', rfl⟩, rfl⟩
theorem longLong_r (hw : Owns e w As) (hp : Pick As A F) (hA : RdA p bt bs A) (hk : 8 ≤ bs.length) (hl : bs.length ≤ 1000000000) :
    Calls Tryz.prog 203 #[.pointer (some ⟨p, 0, none⟩)] w
      (Ret e fun u Bs => u = .int .i64 (rd 0 (bs.take 8)) ∧ ∃ A', RdA p 0 (bs.drop 8) A' ∧ Bs = A' :: F) := by
  refine enter Tryz.func203 rfl Tryz.ntmps203 hw rfl ?_
  refine Cod.seq ?_
  refine Cod.region ?_
  refine Ops.val (opV_assign rfl) rfl ?_
  refine Ops.nil ?_
  refine Ex.next ?_
  refine Cod.seq ?_
  refine Cod.region ?_
  refine Ops.val (opV_move rfl) rfl ?_
  refine Ops.call rfl (opC_call Fx.cal_251 rfl (fun w hw => number_r (k := 8) hw hp hA hk hl)) rfl ?_
  rintro v4 _ ⟨rfl, A', hA', rfl⟩
  refine Ops.val (opV_assign rfl) rfl ?_
  refine Ops.nil ?_
  refine Ex.next ?_
  refine Cod.ret ?_
  exact Ex.ret1 rfl rfl (fun _ h => h.subs (by first | ((repeat (first | exact Sub.refl | exact Sub.nil | apply Sub.emp | (apply Sub.cons; focus ((repeat (first | exact Pick.hd | apply Pick.tl)); done)) | (apply Sub.con; focus ((repeat (first | exact Pick.hd | apply Pick.tl)); done)) | (apply Sub.app; focus ((repeat (first | exact Pick.hd | apply Pick.tl)); done)) | apply Sub.drop)); done) | ((repeat (first | rw [List.append_assoc] | rw [List.cons_append] | rw [List.nil_append] | rw [List.append_nil])); (repeat (first | exact Sub.refl | exact Sub.nil | apply Sub.emp | (apply Sub.cons; focus ((repeat (first | exact Pick.hd | apply Pick.tl)); done)) | (apply Sub.con; focus ((repeat (first | exact Pick.hd | apply Pick.tl)); done)) | (apply Sub.app; focus ((repeat (first | exact Pick.hd | apply Pick.tl)); done)) | apply Sub.drop)); done))) ⟨rfl, A', hA', rfl⟩

theorem long_r (hw : Owns e w As) (hp : Pick As A F) (hA : RdA p bt bs A) (hk : 4 ≤ bs.length) (hl : bs.length ≤ 1000000000) :
    Calls Tryz.prog 256 #[.pointer (some ⟨p, 0, none⟩)] w
      (Ret e fun u Bs => u = .int .i64 (rd 0 (bs.take 4)) ∧ ∃ A', RdA p 0 (bs.drop 4) A' ∧ Bs = A' :: F) := by
  refine enter Tryz.func256 rfl Tryz.ntmps256 hw rfl ?_
  refine Cod.seq ?_
  refine Cod.region ?_
  refine Ops.val (opV_assign rfl) rfl ?_
  refine Ops.nil ?_
  refine Ex.next ?_
  refine Cod.seq ?_
  refine Cod.region ?_
  refine Ops.val (opV_move rfl) rfl ?_
  refine Ops.call rfl (opC_call Fx.cal_251 rfl (fun w hw => number_r (k := 4) hw hp hA hk hl)) rfl ?_
  rintro v4 _ ⟨rfl, A', hA', rfl⟩
  refine Ops.val (opV_assign rfl) rfl ?_
  refine Ops.nil ?_
  refine Ex.next ?_
  refine Cod.ret ?_
  exact Ex.ret1 rfl rfl (fun _ h => h.subs (by first | ((repeat (first | exact Sub.refl | exact Sub.nil | apply Sub.emp | (apply Sub.cons; focus ((repeat (first | exact Pick.hd | apply Pick.tl)); done)) | (apply Sub.con; focus ((repeat (first | exact Pick.hd | apply Pick.tl)); done)) | (apply Sub.app; focus ((repeat (first | exact Pick.hd | apply Pick.tl)); done)) | apply Sub.drop)); done) | ((repeat (first | rw [List.append_assoc] | rw [List.cons_append] | rw [List.nil_append] | rw [List.append_nil])); (repeat (first | exact Sub.refl | exact Sub.nil | apply Sub.emp | (apply Sub.cons; focus ((repeat (first | exact Pick.hd | apply Pick.tl)); done)) | (apply Sub.con; focus ((repeat (first | exact Pick.hd | apply Pick.tl)); done)) | (apply Sub.app; focus ((repeat (first | exact Pick.hd | apply Pick.tl)); done)) | apply Sub.drop)); done))) ⟨rfl, A', hA', rfl⟩


theorem left_r (hw : Owns e w As) (hE : Has e As A) (hA : RdA p bt bs A) :
    Calls Tryz.prog 151 #[.pointer (some ⟨p, 0, none⟩)] w (Ret e fun u Bs => u = .int .i64 bs.length ∧ Bs = As) := by
  obtain ⟨v, row, R, hR, rfl⟩ := hA
  refine enter Tryz.func151 rfl Tryz.ntmps151 hw rfl ?_
  refine Cod.seq ?_
  refine Cod.region ?_
  refine Ops.val (opV_assign rfl) rfl ?_
  refine Ops.nil ?_
  refine Ex.next ?_
  refine Cod.seq ?_
  refine Cod.region ?_
  refine Ops.val (opV_move rfl) rfl ?_
  refine Ops.val (opV_nil rfl) rfl ?_
  refine Ops.val (opV_field Fx.fld_295_0 rfl) rfl ?_
  refine Ops.val (opV_load Fx.scal_29 rfl (cellOf hE (List.Mem.head _) rfl)) rfl ?_
  refine Ops.val (opV_len Fx.sl_29 rfl (by first | exact ⟨_, _, rfl⟩ | exact Sl.isSlice (by assumption) | exact (Row.sl (by assumption)).isSlice)) rfl ?_
  refine Ops.val (opV_assign rfl) rfl ?_
  refine Ops.nil ?_
  refine Ex.next ?_
  refine Cod.ret ?_
  exact Ex.ret1 rfl rfl (fun _ h => h.subs (by first | ((repeat (first | exact Sub.refl | exact Sub.nil | apply Sub.emp | (apply Sub.cons; focus ((repeat (first | exact Pick.hd | apply Pick.tl)); done)) | (apply Sub.con; focus ((repeat (first | exact Pick.hd | apply Pick.tl)); done)) | (apply Sub.app; focus ((repeat (first | exact Pick.hd | apply Pick.tl)); done)) | apply Sub.drop)); done) | ((repeat (first | rw [List.append_assoc] | rw [List.cons_append] | rw [List.nil_append] | rw [List.append_nil])); (repeat (first | exact Sub.refl | exact Sub.nil | apply Sub.emp | (apply Sub.cons; focus ((repeat (first | exact Pick.hd | apply Pick.tl)); done)) | (apply Sub.con; focus ((repeat (first | exact Pick.hd | apply Pick.tl)); done)) | (apply Sub.app; focus ((repeat (first | exact Pick.hd | apply Pick.tl)); done)) | apply Sub.drop)); done))) ⟨rfl, rfl⟩

theorem err_r (hw : Owns e w As) (hE : Has e As A) (hA : RdA p bt bs A) :
    Calls Tryz.prog 154 #[.pointer (some ⟨p, 0, none⟩)] w (Ret e fun u Bs => u = .int .i64 0 ∧ Bs = As) := by
  obtain ⟨v, row, R, hR, rfl⟩ := hA
  refine enter Tryz.func154 rfl Tryz.ntmps154 hw rfl ?_
  refine Cod.seq ?_
  refine Cod.region ?_
  refine Ops.val (opV_assign rfl) rfl ?_
  refine Ops.nil ?_
  refine Ex.next ?_
  refine Cod.seq ?_
  refine Cod.region ?_
  refine Ops.val (opV_move rfl) rfl ?_
  refine Ops.val (opV_nil rfl) rfl ?_
  refine Ops.val (opV_field Fx.fld_295_3 rfl) rfl ?_
  refine Ops.val (opV_load Fx.scal_30 rfl (cellOf hE (List.Mem.head _) rfl)) rfl ?_
  refine Ops.val (opV_assign rfl) rfl ?_
  refine Ops.nil ?_
  refine Ex.next ?_
  refine Cod.ret ?_
  exact Ex.ret1 rfl rfl (fun _ h => h.subs (by first | ((repeat (first | exact Sub.refl | exact Sub.nil | apply Sub.emp | (apply Sub.cons; focus ((repeat (first | exact Pick.hd | apply Pick.tl)); done)) | (apply Sub.con; focus ((repeat (first | exact Pick.hd | apply Pick.tl)); done)) | (apply Sub.app; focus ((repeat (first | exact Pick.hd | apply Pick.tl)); done)) | apply Sub.drop)); done) | ((repeat (first | rw [List.append_assoc] | rw [List.cons_append] | rw [List.nil_append] | rw [List.append_nil])); (repeat (first | exact Sub.refl | exact Sub.nil | apply Sub.emp | (apply Sub.cons; focus ((repeat (first | exact Pick.hd | apply Pick.tl)); done)) | (apply Sub.con; focus ((repeat (first | exact Pick.hd | apply Pick.tl)); done)) | (apply Sub.app; focus ((repeat (first | exact Pick.hd | apply Pick.tl)); done)) | apply Sub.drop)); done))) ⟨rfl, rfl⟩

theorem step_eq {n : Int} {c : UInt8} (h0 : 0 ≤ n) (h1 : n < 2 ^ 55) : step n c = n * 256 + (c.toNat : Int) := by
  obtain ⟨m, rfl⟩ := Int.eq_ofNat_of_zero_le h0
  have hc : c.toNat < 256 := c.toNat_lt
  have e1 : IntKind.i64.wrap ((m : Int) * 2 ^ 8) = ((m * 256 : Nat) : Int) := by rw [IntWalk.i64_in _ (by omega)]; omega
  have e2 : IntKind.i64.wrap ((c.toNat : Nat) : Int) = ((c.toNat : Nat) : Int) := IntWalk.i64_in _ (by omega)
  unfold step
  rw [e1, e2]
  simp only [bitop]
  have e3 : (BitVec.ofInt IntKind.i64.bits ((m * 256 : Nat) : Int) ||| BitVec.ofInt IntKind.i64.bits ((c.toNat : Nat) : Int)).toNat = m * 256 + c.toNat := by
    rw [BitVec.ofInt_natCast, BitVec.ofInt_natCast, BitVec.toNat_or, BitVec.toNat_ofNat, BitVec.toNat_ofNat]
    have hb : IntKind.i64.bits = 64 := rfl
    rw [hb, Nat.mod_eq_of_lt (by omega), Nat.mod_eq_of_lt (by omega)]
    have := Nat.two_pow_add_eq_or_of_lt (i := 8) (b := c.toNat) (by omega) m
    rw [show m * 256 = 2 ^ 8 * m by omega, ← this]
  rw [e3, IntWalk.i64_in _ (by omega)]
  omega
theorem octAt_eq (n : Int) (j : Nat) : ((octAt n j).toNat : Int) = (n / 2 ^ (8 * j)) % 256 := by
  unfold octAt
  rw [UInt8.toNat_ofNat']
  omega
theorem mod_pow (n : Int) (k : Nat) : n % 256 ^ (k + 1) = (n / 256 ^ k % 256) * 256 ^ k + n % 256 ^ k := by
  have hp : (0 : Int) < 256 ^ k := Int.pow_pos (by omega)
  rw [Int.pow_succ]
  generalize (256 : Int) ^ k = q at hp
  have h1 : q * (n / q) + n % q = n := Int.mul_ediv_add_emod n q
  have h2 : 256 * (n / q / 256) + n / q % 256 = n / q := Int.mul_ediv_add_emod (n / q) 256
  have h3 := Int.emod_nonneg n (show q ≠ 0 by omega)
  have h4 := Int.emod_lt_of_pos n hp
  have h5 : 0 ≤ n / q % 256 := Int.emod_nonneg _ (by omega)
  have h6 : n / q % 256 < 256 := Int.emod_lt_of_pos _ (by omega)
  generalize n % q = r at h1 h3 h4
  generalize hd : n / q = d at h1 h2 h5 h6
  generalize d / 256 = f at h2
  generalize d % 256 = g at h2 h5 h6
  subst h2 h1
  have h7 : q * (256 * f + g) + r = (g * q + r) + q * 256 * f := by rw [Int.mul_add, Int.mul_assoc, Int.mul_comm g q]; omega
  have h8 : g * q ≤ 255 * q := Int.mul_le_mul_of_nonneg_right (by omega) (by omega)
  have h9 : 0 ≤ g * q := Int.mul_nonneg h5 (by omega)
  rw [h7, Int.add_mul_emod_self_left, Int.emod_eq_of_lt (by omega) (by omega)]
theorem rd_be : ∀ (k : Nat) (m n : Int), 0 ≤ m → m * 256 ^ k + n % 256 ^ k < 2 ^ 63 → rd m (be k n) = m * 256 ^ k + n % 256 ^ k
  | 0, m, n, _, _ => by simp [be, rd, Int.emod_one]
  | k + 1, m, n, h0, h1 => by
    have hp : (0 : Int) < 256 ^ k := Int.pow_pos (by omega)
    have h2 : (2 : Int) ^ (8 * k) = 256 ^ k := by rw [Int.pow_mul]; rfl
    rw [mod_pow, Int.pow_succ] at h1 ⊢
    have h3 : 0 ≤ n / 256 ^ k % 256 := Int.emod_nonneg _ (by omega)
    have h4 : 0 ≤ n % 256 ^ k := Int.emod_nonneg _ (by omega)
    have h5 : (m * 256 + n / 256 ^ k % 256) * 256 ^ k = m * (256 ^ k * 256) + n / 256 ^ k % 256 * 256 ^ k := by
      rw [Int.add_mul, Int.mul_assoc, Int.mul_comm 256]
    have h6 : m * 256 < 2 ^ 63 := by
      have : m * 256 * 1 ≤ m * 256 * 256 ^ k := Int.mul_le_mul_of_nonneg_left (by omega) (by omega)
      have : m * 256 * 256 ^ k = m * (256 ^ k * 256) := by rw [Int.mul_assoc, Int.mul_comm 256]
      have : 0 ≤ n / 256 ^ k % 256 * 256 ^ k := Int.mul_nonneg h3 (by omega)
      omega
    have h7 : step m (octAt n k) = m * 256 + n / 256 ^ k % 256 := by rw [step_eq h0 (by omega), octAt_eq, h2]
    rw [be, rd, h7, rd_be k _ n (by omega) (by rw [h5]; omega), h5]
    omega
theorem rd_be8 {n : Int} (h0 : 0 ≤ n) (h1 : n < 2 ^ 63) : rd 0 (be 8 n) = n := by
  have e1 : n % 256 ^ 8 = n := Int.emod_eq_of_lt h0 (by omega)
  rw [rd_be 8 0 n (by omega) (by rw [e1]; omega), e1]; omega
theorem rd_be4 {n : Int} (h0 : 0 ≤ n) (h1 : n < 2 ^ 32) : rd 0 (be 4 n) = n := by
  have e1 : n % 256 ^ 4 = n := Int.emod_eq_of_lt h0 (by omega)
  rw [rd_be 4 0 n (by omega) (by rw [e1]; omega), e1]; omega
theorem be4_append {s rest : Str} : (be 4 s.length ++ s ++ rest).take 4 = be 4 s.length ∧ (be 4 s.length ++ s ++ rest).drop 4 = s ++ rest := by
  have : (be 4 (s.length : Int)).length = 4 := be_length 4 _
  rw [List.append_assoc]
  exact ⟨List.take_left' this, List.drop_left' this⟩
theorem text_r {s rest : Str} (hw : Owns e w As) (hp : Pick As A F) (hA : RdA p bt (be 4 s.length ++ s ++ rest) A) (hl : (be 4 s.length ++ s ++ rest).length ≤ 1000000000) :
    Calls Tryz.prog 214 #[.pointer (some ⟨p, 0, none⟩), .int .i64 4] w (Ret e fun u Bs => u = S s ∧ ∃ A', RdA p 0 rest A' ∧ Bs = A' :: F) := by
  have hl' : (be 4 (s.length : Int)).length = 4 := be_length 4 _
  have hl2 : (s ++ rest).length ≤ 1000000000 := by simp only [List.length_append] at hl ⊢; omega
  have hl3 : s.length ≤ 1000000000 := by simp only [List.length_append] at hl2; omega
  have hl4 : 4 ≤ (be 4 (s.length : Int) ++ s ++ rest).length := by simp only [List.length_append, hl']; omega
  have hA0 := hA
  obtain ⟨v, row, R, hR, hAe⟩ := hA0
  refine enter Tryz.func214 rfl Tryz.ntmps214 (hw.pick hp) rfl ?_
  refine Cod.seq ?_
  refine Cod.region ?_
  refine Ops.val (opV_assign rfl) rfl ?_
  refine Ops.nil ?_
  refine Ex.next ?_
  refine Cod.seq ?_
  refine Cod.region ?_
  refine Ops.val (opV_move rfl) rfl ?_
  refine Ops.val (opV_nil rfl) rfl ?_
  refine Ops.val (opV_field Fx.fld_295_0 rfl) rfl ?_
  refine Ops.val (opV_load Fx.scal_29 rfl (cellOf (A := A) (.mem (by repeat (first | exact List.Mem.head _ | apply List.Mem.tail))) (hAe ▸ List.Mem.head _) rfl)) rfl ?_
  refine Ops.val (opV_assign rfl) rfl ?_
  refine Ops.nil ?_
  refine Ex.next ?_
  refine Cod.seq ?_
  refine Cod.region ?_
  refine Ops.val (opV_move rfl) rfl ?_
  refine Ops.val (opV_move rfl) rfl ?_
  refine Ops.call rfl (opC_call Fx.cal_251 rfl (fun w hw => number_r (k := 4) hw .hd hA hl4 hl)) rfl ?_
  rintro v13 _ ⟨rfl, A', hA', rfl⟩
  rw [be4_append.1, rd_be4 (by omega) (by omega)]
  rw [be4_append.2] at hA'
  obtain ⟨v', row', R', hR', rfl⟩ := hA'
  refine Ops.weaken (Bs := [(p, .cells #[v', .int .u8 row', .int .i64 0, .int .i64 0] 295)] :: R' :: F) (l' := [(0, .pointer (some ⟨p, 0, none⟩)), (13, .int .i64 s.length)]) (by repeat (first | exact trivial | refine ⟨rfl, ?_⟩)) (fun _ h => h.split) ?_
  refine Ops.val (opV_assign rfl) rfl ?_
  refine Ops.nil ?_
  refine Ex.next ?_
  refine Cod.seq ?_
  refine Cod.seq ?_
  refine Cod.region ?_
  refine Ops.val (opV_move rfl) rfl ?_
  refine Ops.val (opV_nil rfl) rfl ?_
  refine Ops.val (opV_field Fx.fld_295_3 rfl) rfl ?_
  refine Ops.val (opV_load Fx.scal_30 rfl (by repeat (first | exact Cell.one rfl | assumption | apply Cell.tl))) rfl ?_
  refine Ops.val (opV_neq rfl rfl (by first | exact decide_eq_true (by omega) | exact decide_eq_false (by omega) | rfl)) rfl ?_
  refine Ops.nil ?_
  refine Ex.next ?_
  refine Cod.condF rfl ?_
  refine Cod.skip ?_
  refine Ex.next ?_
  refine Cod.seq ?_
  refine Cod.seq ?_
  refine Cod.region ?_
  refine Ops.val (opV_move rfl) rfl ?_
  refine Ops.val (opV_move rfl) rfl ?_
  refine Ops.val (opV_nil rfl) rfl ?_
  refine Ops.val (opV_field Fx.fld_295_0 rfl) rfl ?_
  refine Ops.val (opV_load Fx.scal_29 rfl (by repeat (first | exact Cell.one rfl | assumption | apply Cell.tl))) rfl ?_
  refine Ops.val (opV_len Fx.sl_29 rfl (by first | exact ⟨_, _, rfl⟩ | exact Sl.isSlice (by assumption) | exact (Row.sl (by assumption)).isSlice)) rfl ?_
  refine Ops.val (opV_gtr rfl rfl (decide_eq_false (by simp only [List.length_append]; omega))) rfl ?_
  refine Ops.nil ?_
  refine Ex.next ?_
  refine Cod.condF rfl ?_
  refine Cod.skip ?_
  refine Ex.next ?_
  refine Cod.seq ?_
  refine Cod.region ?_
  refine Ops.val (opV_move rfl) rfl ?_
  refine Ops.val (opV_move rfl) rfl ?_
  refine Ops.call rfl (opC_call Fx.cal_213 rfl (fun w hw => take_spec hw hR' (by simp) hl2)) rfl ?_
  rintro v35 _ ⟨v3, hv3, hU, rfl⟩
  refine Ops.val (opV_tostr Fx.sl_29 Fx.und_9 Fx.und_5 rfl (by simpa using hU) (.mem (by repeat (first | exact List.Mem.head _ | apply List.Mem.tail)))) rfl ?_
  refine Ops.val (opV_assign rfl) rfl ?_
  refine Ops.nil ?_
  refine Ex.next ?_
  refine Cod.ret ?_
  exact Ex.ret1 rfl rfl (fun _ h => Owns.join (h.subs (by first | ((repeat (first | exact Sub.refl | exact Sub.nil | apply Sub.emp | (apply Sub.cons; focus ((repeat (first | exact Pick.hd | apply Pick.tl)); done)) | (apply Sub.con; focus ((repeat (first | exact Pick.hd | apply Pick.tl)); done)) | (apply Sub.app; focus ((repeat (first | exact Pick.hd | apply Pick.tl)); done)) | apply Sub.drop)); done) | ((repeat (first | rw [List.append_assoc] | rw [List.cons_append] | rw [List.nil_append] | rw [List.append_nil])); (repeat (first | exact Sub.refl | exact Sub.nil | apply Sub.emp | (apply Sub.cons; focus ((repeat (first | exact Pick.hd | apply Pick.tl)); done)) | (apply Sub.con; focus ((repeat (first | exact Pick.hd | apply Pick.tl)); done)) | (apply Sub.app; focus ((repeat (first | exact Pick.hd | apply Pick.tl)); done)) | apply Sub.drop)); done)))) ⟨rfl, _, ⟨v3, row', R', by simpa using hv3, rfl⟩, rfl⟩
theorem longStr_r {s rest : Str} (hw : Owns e w As) (hp : Pick As A F) (hA : RdA p bt (be 4 s.length ++ s ++ rest) A) (hl : (be 4 s.length ++ s ++ rest).length ≤ 1000000000) :
    Calls Tryz.prog 153 #[.pointer (some ⟨p, 0, none⟩)] w (Ret e fun u Bs => u = S s ∧ ∃ A', RdA p 0 rest A' ∧ Bs = A' :: F) := by
  refine enter Tryz.func153 rfl Tryz.ntmps153 hw rfl ?_
  refine Cod.seq ?_
  refine Cod.region ?_
  refine Ops.val (opV_assign rfl) rfl ?_
  refine Ops.nil ?_
  refine Ex.next ?_
  refine Cod.seq ?_
  refine Cod.region ?_
  refine Ops.val (opV_move rfl) rfl ?_
  refine Ops.call rfl (opC_call Fx.cal_214 rfl (fun w hw => text_r hw hp hA hl)) rfl ?_
  rintro v4 _ ⟨rfl, A', hA', rfl⟩
  refine Ops.val (opV_assign rfl) rfl ?_
  refine Ops.nil ?_
  refine Ex.next ?_
  refine Cod.ret ?_
  exact Ex.ret1 rfl rfl (fun _ h => h.subs (by first | ((repeat (first | exact Sub.refl | exact Sub.nil | apply Sub.emp | (apply Sub.cons; focus ((repeat (first | exact Pick.hd | apply Pick.tl)); done)) | (apply Sub.con; focus ((repeat (first | exact Pick.hd | apply Pick.tl)); done)) | (apply Sub.app; focus ((repeat (first | exact Pick.hd | apply Pick.tl)); done)) | apply Sub.drop)); done) | ((repeat (first | rw [List.append_assoc] | rw [List.cons_append] | rw [List.nil_append] | rw [List.append_nil])); (repeat (first | exact Sub.refl | exact Sub.nil | apply Sub.emp | (apply Sub.cons; focus ((repeat (first | exact Pick.hd | apply Pick.tl)); done)) | (apply Sub.con; focus ((repeat (first | exact Pick.hd | apply Pick.tl)); done)) | (apply Sub.app; focus ((repeat (first | exact Pick.hd | apply Pick.tl)); done)) | apply Sub.drop)); done))) ⟨rfl, A', hA', rfl⟩
theorem bit_r {rest : Str} {c : UInt8} (hw : Owns e w As) (hp : Pick As A F) (hA : RdA p 0 (c :: rest) A) (hc : c = 0 ∨ c = 1) (hl : (c :: rest).length ≤ 1000000000) :
    Calls Tryz.prog 152 #[.pointer (some ⟨p, 0, none⟩)] w (Ret e fun u Bs => u = .bool (decide (c = 1)) ∧ ∃ A' bt, RdA p bt rest A' ∧ Bs = A' :: F) := by
  obtain ⟨v, row, R, hR, rfl⟩ := hA
  refine enter Tryz.func152 rfl Tryz.ntmps152 (hw.pick hp).split rfl ?_
  refine Cod.seq ?_
  refine Cod.region ?_
  refine Ops.val (opV_assign rfl) rfl ?_
  refine Ops.nil ?_
  refine Ex.next ?_
  refine Cod.seq ?_
  refine Cod.seq ?_
  refine Cod.region ?_
  refine Ops.val (opV_move rfl) rfl ?_
  refine Ops.val (opV_nil rfl) rfl ?_
  refine Ops.val (opV_field Fx.fld_295_3 rfl) rfl ?_
  refine Ops.val (opV_load Fx.scal_30 rfl (by repeat (first | exact Cell.one rfl | assumption | apply Cell.tl))) rfl ?_
  refine Ops.val (opV_neq rfl rfl (by first | exact decide_eq_true (by omega) | exact decide_eq_false (by omega) | rfl)) rfl ?_
  refine Ops.nil ?_
  refine Ex.next ?_
  refine Cod.condF rfl ?_
  refine Cod.skip ?_
  refine Ex.next ?_
  refine Cod.seq ?_
  refine Cod.seq ?_
  refine Cod.region ?_
  refine Ops.val (opV_move rfl) rfl ?_
  refine Ops.val (opV_nil rfl) rfl ?_
  refine Ops.val (opV_field Fx.fld_295_2 rfl) rfl ?_
  refine Ops.val (opV_load Fx.scal_3 rfl (by repeat (first | exact Cell.one rfl | assumption | apply Cell.tl))) rfl ?_
  refine Ops.val (opV_eql rfl rfl (by first | exact decide_eq_true (by omega) | exact decide_eq_false (by omega) | rfl)) rfl ?_
  refine Ops.nil ?_
  refine Ex.next ?_
  refine Cod.condT rfl ?_
  refine Cod.seq ?_
  refine Cod.region ?_
  refine Ops.val (opV_move rfl) rfl ?_
  refine Ops.call rfl (opC_call Fx.cal_213 rfl (fun w hw => take_spec (k := 1) hw hR (by simp) hl)) rfl ?_
  rintro v16 _ ⟨v', hv', hU, rfl⟩
  obtain ⟨aU, cU, rfl⟩ := hU.isSlice
  obtain ⟨aU, rfl⟩ : ∃ a, aU = some a := by
      rcases hU.2 with ⟨h, h2⟩ | ⟨g, o, cap, cur, T, fz, h, _⟩
      · omega
      · cases h; exact ⟨_, rfl⟩
  refine Ops.val (opV_assign rfl) rfl ?_
  refine Ops.nil ?_
  refine Ex.next ?_
  refine Cod.seq ?_
  refine Cod.seq ?_
  refine Cod.region ?_
  refine Ops.val (opV_move rfl) rfl ?_
  refine Ops.val (opV_slnil Fx.sl_29 rfl rfl rfl) rfl ?_
  refine Ops.nil ?_
  refine Ex.next ?_
  refine Cod.condF rfl ?_
  refine Cod.skip ?_
  refine Ex.next ?_
  refine Cod.region ?_
  refine Ops.val (opV_move rfl) rfl ?_
  refine Ops.val (opV_move rfl) rfl ?_
  refine Ops.val (opV_move rfl) rfl ?_
  refine Ops.val (opV_indexAddr Fx.sl_29 rfl hU (k := 0) rfl (by omega)) rfl ?_
  refine Ops.val (opV_loadE Fx.scal_5 rfl hU (.mem (by repeat (first | exact List.Mem.head _ | apply List.Mem.tail))) (u := .int .u8 (c.toNat : Int)) (by simp [bcells])) rfl ?_
  refine Ops.val (opV_nil rfl) rfl ?_
  refine Ops.val (opV_field Fx.fld_295_1 rfl) rfl ?_
  refine Ops.st rfl (opS_store Fx.scal_5 Fx.sz1_5 rfl rfl (by first | rfl | assumption | exact Row.one (by assumption) | exact Sl.one (by assumption)) rfl (by repeat (first | exact Upd.hd | apply Upd.tl)) (by repeat (first | exact LSet.hd | apply LSet.tl))) ?_
  refine Ops.val (opV_nil rfl) rfl ?_
  refine Ops.val (opV_field Fx.fld_295_2 rfl) rfl ?_
  refine Ops.st rfl (opS_store Fx.scal_3 Fx.sz1_3 rfl rfl (by first | rfl | assumption | exact Row.one (by assumption) | exact Sl.one (by assumption)) rfl (by repeat (first | exact Upd.hd | apply Upd.tl)) (by repeat (first | exact LSet.hd | apply LSet.tl))) ?_
  refine Ops.nil ?_
  refine Ex.next ?_
  refine Cod.seq ?_
  refine Cod.region ?_
  refine Ops.val (opV_move rfl) rfl ?_
  refine Ops.val (opV_nil rfl) rfl ?_
  refine Ops.val (opV_field Fx.fld_295_1 rfl) rfl ?_
  refine Ops.val (opV_load Fx.scal_5 rfl (by repeat (first | exact Cell.one rfl | assumption | apply Cell.tl))) rfl ?_
  refine Ops.val (opV_and' rfl rfl) rfl ?_
  refine Ops.val (opV_eql rfl rfl (by first | exact decide_eq_true (by omega) | exact decide_eq_false (by omega) | rfl)) rfl ?_
  refine Ops.val (opV_assign rfl) rfl ?_
  refine Ops.nil ?_
  refine Ex.next ?_
  refine Cod.seq ?_
  refine Cod.region ?_
  refine Ops.val (opV_move rfl) rfl ?_
  refine Ops.val (opV_nil rfl) rfl ?_
  refine Ops.val (opV_field Fx.fld_295_1 rfl) rfl ?_
  refine Ops.val (opV_load Fx.scal_5 rfl (by repeat (first | exact Cell.one rfl | assumption | apply Cell.tl))) rfl ?_
  refine Ops.val (opV_shr (s := 1) rfl rfl (by simp [IntKind.bits])) rfl ?_
  refine Ops.val (opV_nil rfl) rfl ?_
  refine Ops.val (opV_field Fx.fld_295_1 rfl) rfl ?_
  refine Ops.st rfl (opS_store Fx.scal_5 Fx.sz1_5 rfl rfl (by first | rfl | assumption | exact Row.one (by assumption) | exact Sl.one (by assumption)) rfl (by repeat (first | exact Upd.hd | apply Upd.tl)) (by repeat (first | exact LSet.hd | apply LSet.tl))) ?_
  refine Ops.nil ?_
  refine Ex.next ?_
  refine Cod.seq ?_
  refine Cod.region ?_
  refine Ops.val (opV_move rfl) rfl ?_
  refine Ops.val (opV_nil rfl) rfl ?_
  refine Ops.val (opV_field Fx.fld_295_2 rfl) rfl ?_
  refine Ops.val (opV_load Fx.scal_3 rfl (by repeat (first | exact Cell.one rfl | assumption | apply Cell.tl))) rfl ?_
  refine Ops.val (opV_sub64 rfl rfl (by omega)) rfl ?_
  refine Ops.val (opV_nil rfl) rfl ?_
  refine Ops.val (opV_field Fx.fld_295_2 rfl) rfl ?_
  refine Ops.st rfl (opS_store Fx.scal_3 Fx.sz1_3 rfl rfl (by first | rfl | assumption | exact Row.one (by assumption) | exact Sl.one (by assumption)) rfl (by repeat (first | exact Upd.hd | apply Upd.tl)) (by repeat (first | exact LSet.hd | apply LSet.tl))) ?_
  refine Ops.nil ?_
  refine Ex.next ?_
  refine Cod.seq ?_
  refine Cod.region ?_
  refine Ops.val (opV_move rfl) rfl ?_
  refine Ops.val (opV_assign rfl) rfl ?_
  refine Ops.nil ?_
  refine Ex.next ?_
  refine Cod.ret ?_
  exact Ex.ret1 rfl rfl (fun _ h => Owns.join (h.subs (by first | ((repeat (first | exact Sub.refl | exact Sub.nil | apply Sub.emp | (apply Sub.cons; focus ((repeat (first | exact Pick.hd | apply Pick.tl)); done)) | (apply Sub.con; focus ((repeat (first | exact Pick.hd | apply Pick.tl)); done)) | (apply Sub.app; focus ((repeat (first | exact Pick.hd | apply Pick.tl)); done)) | apply Sub.drop)); done) | ((repeat (first | rw [List.append_assoc] | rw [List.cons_append] | rw [List.nil_append] | rw [List.append_nil])); (repeat (first | exact Sub.refl | exact Sub.nil | apply Sub.emp | (apply Sub.cons; focus ((repeat (first | exact Pick.hd | apply Pick.tl)); done)) | (apply Sub.con; focus ((repeat (first | exact Pick.hd | apply Pick.tl)); done)) | (apply Sub.app; focus ((repeat (first | exact Pick.hd | apply Pick.tl)); done)) | apply Sub.drop)); done)))) ⟨by rcases hc with rfl | rfl <;> rfl, _, _, ⟨v', _, R, by simpa using hv', rfl⟩, rfl⟩
end
end Go.Proofs.YteejmoldhbfdnaaGreatDoor.OctR
