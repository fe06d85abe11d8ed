/- Package seal. -/
import Derived.Test.YteejmoldhbfdnaaGreatDoorOctetR
namespace Go.Proofs.YteejmoldhbfdnaaGreatDoor.Seal
open Go.W Go.RowKit Lib1 Oct OctR
namespace Fx
theorem arr_372 : arrInfo Tryz.prog 372 = some 16 := by kernel_rfl
theorem cal_135 : callable Tryz.prog 135 = true := by kernel_rfl
theorem cal_138 : callable Tryz.prog 138 = true := by kernel_rfl
theorem cal_150 : callable Tryz.prog 150 = true := by kernel_rfl
theorem cal_172 : callable Tryz.prog 172 = true := by kernel_rfl
theorem cal_211 : callable Tryz.prog 211 = true := by kernel_rfl
theorem cal_253 : callable Tryz.prog 253 = true := by kernel_rfl
theorem cal_254 : callable Tryz.prog 254 = true := by kernel_rfl
theorem cal_256 : callable Tryz.prog 256 = true := by kernel_rfl
theorem ni_22 : notInt Tryz.prog 22 = true := by kernel_rfl
theorem ni_29 : notInt Tryz.prog 29 = true := by kernel_rfl
theorem scal_317 : scalarB Tryz.prog 317 = true := by kernel_rfl
theorem scal_5 : scalarB Tryz.prog 5 = true := by kernel_rfl
theorem sl_22 : slInfo Tryz.prog 22 = some (29, 1, 24, some (.slice none 0 0)) := by kernel_rfl
theorem sl_29 : slInfo Tryz.prog 29 = some (5, 1, 1, some (.int .u8 0)) := by kernel_rfl
theorem undS_317 : (Tryz.prog.underlying 317).isSome = true := by kernel_rfl
theorem undS_5 : (Tryz.prog.underlying 5).isSome = true := by kernel_rfl
theorem und_2 : Tryz.prog.underlying 2 = some (.int .i64) := by kernel_rfl
theorem und_317 : Tryz.prog.underlying 317 = some (.int .u32) := by kernel_rfl

end Fx
def nib : List Int := [0x00000000, 0x105ec76f, 0x20bd8ede, 0x30e349b1, 0x417b1dbc, 0x5125dad3, 0x61c69362, 0x7198540d, 0x82f63b78, 0x92a8fc17, 0xa24bb5a6, 0xb21572c9, 0xc38d26c4, 0xd3d3e1ab, 0xe330a81a, 0xf36e6f75]
def nibV : List Value := nib.map fun x => .int .u32 x
/-- The variable nibble stands in the base. -/
def HasNib (e : Ctx) : Prop := ∃ T fz, (0, .cells nibV.toArray T fz) ∈ e.base
/-- Half an octet more is summed up. -/
def half (s : Int) : Int := bitop .xor .u32 (s.fdiv (2 ^ 4)) (nib.getD (bitop .and .u32 s 15).toNat 0)
def ov1 (s : Int) (c : UInt8) : Int := half (half (bitop .xor .u32 s (IntKind.u32.wrap (c.toNat : Int))))
def ov (s : Int) : Str → Int
  | [] => s
  | c :: cs => ov (ov1 s c) cs
theorem ov_snoc (s : Int) (cs : Str) (c : UInt8) : ov s (cs ++ [c]) = ov1 (ov s cs) c := by
  induction cs generalizing s with
  | nil => rfl
  | cons d ds ih => simp [ov, ih]
theorem low (s : Int) : ∃ k : Nat, bitop .and .u32 s 15 = (k : Int) ∧ k < 16 := by
  simp only [bitop]
  have h : (BitVec.ofInt IntKind.u32.bits s &&& BitVec.ofInt IntKind.u32.bits 15).toNat ≤ 15 := by
    rw [BitVec.toNat_and]
    exact Nat.le_trans Nat.and_le_right (by decide)
  generalize (BitVec.ofInt IntKind.u32.bits s &&& BitVec.ofInt IntKind.u32.bits 15).toNat = m at h
  refine ⟨m, ?_, by omega⟩
  simp only [IntKind.wrap, IntKind.bits, IntKind.signed]
  simp
  omega
theorem nib_get {k : Nat} (h : k < 16) : nibV.toArray[0 + k]? = some (.int .u32 (nib.getD k 0)) := by
  rw [Nat.zero_add]
  have hl : nib.length = 16 := rfl
  simp [nibV, List.getElem?_map, List.getElem?_eq_getElem (show k < nib.length by omega), List.getD]
section
variable {e : Ctx} {w : World} {As F : List Hp} {A : Hp} {p : Nat} {bs : Str} {v : Value}
theorem over_spec {s : Int} {m : Nat} (hm : m = bs.length) (hG : HasNib e) (hw : Owns e w As) (hv : Sl A 1 v m (bcells bs)) (hA : Has e As A) (hl : bs.length ≤ 1000000000) :
    Calls Tryz.prog 254 #[.int .u32 s, v] w (Ret e fun u Bs => u = .int .u32 (ov s bs) ∧ Bs = As) := by
  subst hm
  obtain ⟨T, fz, hG⟩ := hG
  refine enter Tryz.func254 rfl Tryz.ntmps254 hw rfl ?_
  refine Cod.seq ?_
  refine Cod.region ?_
  refine Ops.val (opV_assign rfl) rfl ?_
  refine Ops.nil ?_
  refine Ex.next ?_
  refine Cod.seq ?_
  refine Cod.seq ?_
  refine Cod.region ?_
  refine Ops.val (opV_move rfl) rfl ?_
  refine Ops.val (opV_len Fx.sl_29 rfl (by first | exact ⟨_, _, rfl⟩ | exact Sl.isSlice (by assumption) | exact (Row.sl (by assumption)).isSlice)) rfl ?_
  refine Ops.val (opV_move rfl) rfl ?_
  refine Ops.nil ?_
  refine Ex.next ?_
  refine Cod.block ?_
  refine Cod.loop (X := Nat) (fun i => [(0, .int .u32 (ov s (bs.take i))), (7, v), (8, .int .i64 bs.length), (9, .int .i64 i)]) (fun i => As) (fun i => i ≤ bs.length) (fun i => bs.length - i) (0) ((Nat.zero_le _)) (by repeat (first | exact trivial | refine ⟨rfl, ?_⟩)) (fun _ h => h.subs (by first | ((repeat (first | exact Sub.refl | exact Sub.nil | apply Sub.emp | (apply Sub.cons; focus ((repeat (first | exact Pick.hd | apply Pick.tl)); done)) | (apply Sub.con; focus ((repeat (first | exact Pick.hd | apply Pick.tl)); done)) | (apply Sub.app; focus ((repeat (first | exact Pick.hd | apply Pick.tl)); done)) | apply Sub.drop)); done) | ((repeat (first | rw [List.append_assoc] | rw [List.cons_append] | rw [List.nil_append] | rw [List.append_nil])); (repeat (first | exact Sub.refl | exact Sub.nil | apply Sub.emp | (apply Sub.cons; focus ((repeat (first | exact Pick.hd | apply Pick.tl)); done)) | (apply Sub.con; focus ((repeat (first | exact Pick.hd | apply Pick.tl)); done)) | (apply Sub.app; focus ((repeat (first | exact Pick.hd | apply Pick.tl)); done)) | apply Sub.drop)); done))) ?_
  rintro i hi
  try dsimp only
  refine Cod.seq ?_
  refine Cod.region ?_
  refine Ops.val (opV_lss rfl rfl (by first | exact decide_eq_true (by omega) | exact decide_eq_false (by omega) | rfl)) rfl ?_
  refine Ops.nil ?_
  refine Ex.next ?_
  refine Cod.seq ?_
  refine Cod.cond rfl (fun hc => ?_) (fun hc => ?_)
  · try simp at hc
    obtain ⟨c, hcc⟩ : ∃ c, bs[i]? = some c := ⟨_, List.getElem?_eq_getElem (by omega)⟩
    refine Cod.skip ?_
    refine Ex.next ?_
    refine Cod.seq ?_
    refine Cod.block ?_
    refine Cod.seq ?_
    refine Cod.region ?_
    refine Ops.val (opV_indexAddr Fx.sl_29 rfl hv (k := i) rfl (by omega)) rfl ?_
    refine Ops.val (opV_loadE Fx.scal_5 rfl hv hA (bcells_get hcc)) rfl ?_
    refine Ops.val (opV_assign rfl) rfl ?_
    refine Ops.nil ?_
    refine Ex.next ?_
    refine Cod.seq ?_
    refine Cod.region ?_
    refine Ops.val (opV_move rfl) rfl ?_
    refine Ops.val (opV_move rfl) rfl ?_
    refine Ops.val (opV_conv Fx.und_317 Fx.undS_5 rfl) rfl ?_
    refine Ops.val (opV_xor rfl rfl) rfl ?_
    obtain ⟨k1, hk1, hk1'⟩ := low (bitop .xor .u32 (ov s (bs.take i)) (IntKind.u32.wrap (c.toNat : Int)))
    refine Ops.val (opV_assign rfl) rfl ?_
    refine Ops.nil ?_
    refine Ex.next ?_
    refine Cod.seq ?_
    refine Cod.region ?_
    refine Ops.val (opV_move rfl) rfl ?_
    refine Ops.val (opV_shr (s := 4) rfl rfl (by simp [IntKind.bits])) rfl ?_
    refine Ops.val (opV_move rfl) rfl ?_
    refine Ops.val (opV_and' rfl rfl) rfl ?_
    refine Ops.val (opV_indexArr Fx.arr_372 rfl (k := k1) (congrArg (fun z => some (Value.int .u32 z)) hk1) hk1') rfl ?_
    refine Ops.val (opV_load Fx.scal_317 rfl (.base hG (nib_get hk1'))) rfl ?_
    refine Ops.val (opV_xor rfl rfl) rfl ?_
    obtain ⟨k2, hk2, hk2'⟩ := low (bitop .xor .u32 ((bitop .xor .u32 (ov s (bs.take i)) (IntKind.u32.wrap (c.toNat : Int))).fdiv (2 ^ 4)) (nib.getD k1 0))
    refine Ops.val (opV_assign rfl) rfl ?_
    refine Ops.nil ?_
    refine Ex.next ?_
    refine Cod.region ?_
    refine Ops.val (opV_move rfl) rfl ?_
    refine Ops.val (opV_shr (s := 4) rfl rfl (by simp [IntKind.bits])) rfl ?_
    refine Ops.val (opV_move rfl) rfl ?_
    refine Ops.val (opV_and' rfl rfl) rfl ?_
    refine Ops.val (opV_indexArr Fx.arr_372 rfl (k := k2) (congrArg (fun z => some (Value.int .u32 z)) hk2) hk2') rfl ?_
    refine Ops.val (opV_load Fx.scal_317 rfl (.base hG (nib_get hk2'))) rfl ?_
    refine Ops.val (opV_xor rfl rfl) rfl ?_
    have ht : ov s (bs.take (i + 1)) = ov1 (ov s (bs.take i)) c := by
        rw [List.take_add_one, hcc, Option.toList_some, ov_snoc]
    have ht2 : ov1 (ov s (bs.take i)) c = bitop .xor .u32 ((bitop .xor .u32 ((bitop .xor .u32 (ov s (bs.take i)) (IntKind.u32.wrap (c.toNat : Int))).fdiv (2 ^ 4)) (nib.getD k1 0)).fdiv (2 ^ 4)) (nib.getD k2 0) := by
        unfold ov1 half
        rw [hk1, Int.toNat_natCast, hk2, Int.toNat_natCast]
    rw [← ht2, ← ht]
    refine Ops.val (opV_assign rfl) rfl ?_
    refine Ops.nil ?_
    refine Ex.blockNormal ?_
    refine Ex.next ?_
    refine Cod.region ?_
    refine Ops.val (opV_add64 rfl rfl (by omega)) rfl ?_
    refine Ops.val (opV_move rfl) rfl ?_
    refine Ops.nil ?_
    refine Ex.toN (fun _ _ hs => ⟨i + 1, (by omega), (by first | omega | (dsimp only; omega) | (simp; omega) | (simp; done)), hs⟩) (by repeat (first | exact trivial | refine ⟨rfl, ?_⟩)) (fun _ h => h.subs (by first | ((repeat (first | exact Sub.refl | exact Sub.nil | apply Sub.emp | (apply Sub.cons; focus ((repeat (first | exact Pick.hd | apply Pick.tl)); done)) | (apply Sub.con; focus ((repeat (first | exact Pick.hd | apply Pick.tl)); done)) | (apply Sub.app; focus ((repeat (first | exact Pick.hd | apply Pick.tl)); done)) | apply Sub.drop)); done) | ((repeat (first | rw [List.append_assoc] | rw [List.cons_append] | rw [List.nil_append] | rw [List.append_nil])); (repeat (first | exact Sub.refl | exact Sub.nil | apply Sub.emp | (apply Sub.cons; focus ((repeat (first | exact Pick.hd | apply Pick.tl)); done)) | (apply Sub.con; focus ((repeat (first | exact Pick.hd | apply Pick.tl)); done)) | (apply Sub.app; focus ((repeat (first | exact Pick.hd | apply Pick.tl)); done)) | apply Sub.drop)); done)))
  · try simp at hc
    obtain rfl : i = bs.length := by omega
    rw [List.take_length]
    refine Cod.exit ?_
    refine Ex.thenExit ?_
    refine Ex.thenExit ?_
    refine Ex.blockHit ?_
    refine Ex.next ?_
    refine Cod.seq ?_
    refine Cod.region ?_
    refine Ops.val (opV_move rfl) rfl ?_
    refine Ops.val (opV_assign rfl) rfl ?_
    refine Ops.nil ?_
    refine Ex.next ?_
    refine Cod.ret ?_
    exact Ex.ret1 rfl rfl (fun _ h => h.subs (by first | ((repeat (first | exact Sub.refl | exact Sub.nil | apply Sub.emp | (apply Sub.cons; focus ((repeat (first | exact Pick.hd | apply Pick.tl)); done)) | (apply Sub.con; focus ((repeat (first | exact Pick.hd | apply Pick.tl)); done)) | (apply Sub.app; focus ((repeat (first | exact Pick.hd | apply Pick.tl)); done)) | apply Sub.drop)); done) | ((repeat (first | rw [List.append_assoc] | rw [List.cons_append] | rw [List.nil_append] | rw [List.append_nil])); (repeat (first | exact Sub.refl | exact Sub.nil | apply Sub.emp | (apply Sub.cons; focus ((repeat (first | exact Pick.hd | apply Pick.tl)); done)) | (apply Sub.con; focus ((repeat (first | exact Pick.hd | apply Pick.tl)); done)) | (apply Sub.app; focus ((repeat (first | exact Pick.hd | apply Pick.tl)); done)) | apply Sub.drop)); done))) ⟨rfl, rfl⟩

/-- What stands wrapped. -/
def sumOf (d : Str) : Int := IntKind.i64.wrap (bitop .xor .u32 (ov (ov 4294967295 (be 4 d.length)) d) 4294967295)
def wrapped (d : Str) : Str := be 4 d.length ++ be 4 (sumOf d) ++ d
theorem wrapped_length (d : Str) : (wrapped d).length = 8 + d.length := by simp [wrapped, be_length]; omega
theorem wrap_spec {d : Str} {m : Nat} (hm : m = d.length) (hG : HasNib e) (hw : Owns e w As) (hv : Sl A 1 v m (bcells d)) (hA : Has e As A) (hl : d.length ≤ 1048576) :
    Calls Tryz.prog 205 #[v] w (Ret e fun u Bs => ∃ v' A', u = .tuple #[v', .int .i64 0] ∧ Row 5 1 v' (wrapped d).length (bcells (wrapped d)) A' ∧ Bs = A' :: As) := by
  subst hm
  refine enter Tryz.func205 rfl Tryz.ntmps205 hw rfl ?_
  refine Cod.seq ?_
  refine Cod.region ?_
  refine Ops.val (opV_assign rfl) rfl ?_
  refine Ops.val (opV_assign rfl) rfl ?_
  refine Ops.nil ?_
  refine Ex.next ?_
  refine Cod.seq ?_
  refine Cod.seq ?_
  refine Cod.region ?_
  refine Ops.val (opV_move rfl) rfl ?_
  refine Ops.val (opV_len Fx.sl_29 rfl hv.isSlice) rfl ?_
  refine Ops.val (opV_gtr rfl rfl (by first | exact decide_eq_true (by omega) | exact decide_eq_false (by omega) | rfl)) rfl ?_
  refine Ops.nil ?_
  refine Ex.next ?_
  refine Cod.condF rfl ?_
  refine Cod.skip ?_
  refine Ex.next ?_
  refine Cod.seq ?_
  refine Cod.region ?_
  refine Ops.call rfl (opC_call Fx.cal_135 rfl (fun w hw => newWriter hw)) rfl ?_
  rintro v8 _ ⟨p, A1, rfl, hA1, rfl⟩
  refine Ops.val (opV_assign rfl) rfl ?_
  refine Ops.nil ?_
  refine Ex.next ?_
  refine Cod.seq ?_
  refine Cod.region ?_
  refine Ops.val (opV_move rfl) rfl ?_
  refine Ops.val (opV_move rfl) rfl ?_
  refine Ops.val (opV_len Fx.sl_29 rfl hv.isSlice) rfl ?_
  refine Ops.call rfl (opC_call Fx.cal_253 rfl (fun w hw => long hw .hd hA1 (by simp))) rfl ?_
  rintro v12 _ ⟨rfl, A2, hA2, rfl⟩
  refine Ops.nil ?_
  refine Ex.next ?_
  refine Cod.seq ?_
  refine Cod.region ?_
  refine Ops.val (opV_move rfl) rfl ?_
  refine Ops.val (opV_move rfl) rfl ?_
  refine Ops.call rfl (opC_call Fx.cal_138 rfl (fun w hw => Oct.bytes hw (.mem (List.Mem.head _)) hA2 (by simp [be_length]))) rfl ?_
  rintro v15 _ ⟨A3, hA3, rfl⟩
  refine Ops.call rfl (opC_call Fx.cal_254 rfl (fun w hw => over_spec (by simp) hG hw hA3.sl (.mem (by repeat (first | exact List.Mem.head _ | apply List.Mem.tail))) (by simp [be_length]))) rfl ?_
  rintro v16 _ ⟨rfl, rfl⟩
  refine Ops.val (opV_move rfl) rfl ?_
  refine Ops.call rfl (opC_call Fx.cal_254 rfl (fun w hw => over_spec rfl hG hw hv (by cases hA with | base => exact .base | mem h => exact .mem (.tail _ (.tail _ h))) (by omega))) rfl ?_
  rintro v18 _ ⟨rfl, rfl⟩
  refine Ops.val (opV_xor rfl rfl) rfl ?_
  refine Ops.val (opV_conv Fx.und_2 Fx.undS_317 rfl) rfl ?_
  refine Ops.call rfl (opC_call Fx.cal_253 rfl (fun w hw => long hw (.tl .hd) hA2 (by simp [be_length]))) rfl ?_
  rintro v21 _ ⟨rfl, A4, hA4, rfl⟩
  refine Ops.nil ?_
  refine Ex.next ?_
  refine Cod.seq ?_
  refine Cod.region ?_
  refine Ops.val (opV_move rfl) rfl ?_
  refine Ops.val (opV_move rfl) rfl ?_
  refine Ops.call rfl (opC_call Fx.cal_172 rfl (fun w hw => raw hw .hd hA4 rfl hv (by cases hA with | base => exact .base | mem h => exact .mem (.tail _ h)) (by simp [be_length]; omega))) rfl ?_
  rintro v24 _ ⟨rfl, A5, hA5, rfl⟩
  refine Ops.nil ?_
  refine Ex.next ?_
  refine Cod.seq ?_
  refine Cod.region ?_
  refine Ops.val (opV_move rfl) rfl ?_
  refine Ops.call rfl (opC_call Fx.cal_138 rfl (fun w hw => Oct.bytes hw (.mem (List.Mem.head _)) hA5 (by simp [be_length]; omega))) rfl ?_
  rintro v26 _ ⟨A6, hA6, rfl⟩
  refine Ops.val (opV_assign rfl) rfl ?_
  refine Ops.val (opV_assign rfl) rfl ?_
  refine Ops.nil ?_
  refine Ex.next ?_
  refine Cod.ret ?_
  exact Ex.ret2 rfl rfl rfl (fun _ h => h.subs (by first | ((repeat (first | exact Sub.refl | exact Sub.nil | apply Sub.emp | (apply Sub.cons; focus ((repeat (first | exact Pick.hd | apply Pick.tl)); done)) | (apply Sub.con; focus ((repeat (first | exact Pick.hd | apply Pick.tl)); done)) | (apply Sub.app; focus ((repeat (first | exact Pick.hd | apply Pick.tl)); done)) | apply Sub.drop)); done) | ((repeat (first | rw [List.append_assoc] | rw [List.cons_append] | rw [List.nil_append] | rw [List.append_nil])); (repeat (first | exact Sub.refl | exact Sub.nil | apply Sub.emp | (apply Sub.cons; focus ((repeat (first | exact Pick.hd | apply Pick.tl)); done)) | (apply Sub.con; focus ((repeat (first | exact Pick.hd | apply Pick.tl)); done)) | (apply Sub.app; focus ((repeat (first | exact Pick.hd | apply Pick.tl)); done)) | apply Sub.drop)); done))) ⟨_, A6, rfl, by simpa [wrapped, sumOf] using hA6, rfl⟩

theorem rd_bound : ∀ (bs : Str) (m : Int), 0 ≤ m → (m + 1) * 256 ^ bs.length ≤ 2 ^ 63 → 0 ≤ rd m bs ∧ rd m bs + 1 ≤ (m + 1) * 256 ^ bs.length
  | [], m, h0, _ => by simp [rd]; omega
  | c :: cs, m, h0, h1 => by
    have hp : (0 : Int) < 256 ^ cs.length := Int.pow_pos (by omega)
    have hc : c.toNat < 256 := c.toNat_lt
    have e1 : (m + 1) * 256 ^ (c :: cs).length = (m * 256 + 256) * 256 ^ cs.length := by
      rw [List.length_cons, Int.pow_succ, Int.mul_comm (256 ^ cs.length) 256, ← Int.mul_assoc]
      congr 1
      omega
    have h2 : (m * 256 + 256) * 1 ≤ (m * 256 + 256) * 256 ^ cs.length := Int.mul_le_mul_of_nonneg_left (by omega) (by omega)
    rw [e1] at h1 ⊢
    have h3 : OctR.step m c = m * 256 + (c.toNat : Int) := step_eq h0 (by omega)
    have h4 : (OctR.step m c + 1) * 256 ^ cs.length ≤ (m * 256 + 256) * 256 ^ cs.length := Int.mul_le_mul_of_nonneg_right (by omega) (by omega)
    have ih := rd_bound cs (OctR.step m c) (by omega) (by omega)
    simp only [rd]
    omega
theorem rd4 {bs : Str} (h : bs.length = 4) : ∃ k : Nat, rd 0 bs = (k : Int) ∧ k < 2 ^ 32 := by
  have := rd_bound bs 0 (by omega) (by rw [h]; decide)
  rw [h] at this
  exact ⟨(rd 0 bs).toNat, by omega, by omega⟩
/-- What stands at the beginning, wrapped. -/
def unwrapF (b : Str) : Option Str :=
  if b.length < 8 then none else
  let n := rd 0 (b.take 4)
  if n > 1048576 ∨ n > (b.length : Int) - 8 then none else
  let d := (b.drop 8).take n.toNat
  if IntKind.i64.wrap (bitop .xor .u32 (ov (ov 4294967295 (b.take 4)) d) 4294967295) = rd 0 ((b.drop 4).take 4) then some d else none
theorem unwrap_spec {b : Str} {m : Nat} (hm : m = b.length) (hG : HasNib e) (hw : Owns e w As) (hv : Sl A 1 v m (bcells b)) (hA : Has e As A) (hl : b.length ≤ 1000000000) :
    Calls Tryz.prog 211 #[v] w (Ret e fun u Bs => match unwrapF b with
      | some d => ∃ v' A', u = .tuple #[v', .int .i64 ((8 + d.length : Nat) : Int), .int .i64 0] ∧ Row 5 1 v' d.length (bcells d) A' ∧ Bs = A' :: As
      | none => ∃ err, err ≠ 0 ∧ u = .tuple #[.slice none 0 0, .int .i64 0, .int .i64 err] ∧ Bs = As) := by
  subst hm
  refine enter Tryz.func211 rfl Tryz.ntmps211 hw rfl ?_
  refine Cod.seq ?_
  refine Cod.region ?_
  refine Ops.val (opV_assign rfl) rfl ?_
  refine Ops.val (opV_assign rfl) rfl ?_
  refine Ops.val (opV_assign rfl) rfl ?_
  refine Ops.nil ?_
  refine Ex.next ?_
  refine Cod.seq ?_
  refine Cod.seq ?_
  refine Cod.region ?_
  refine Ops.val (opV_move rfl) rfl ?_
  refine Ops.val (opV_len Fx.sl_29 rfl hv.isSlice) rfl ?_
  refine Ops.val (opV_lss rfl rfl (by first | exact decide_eq_true (by omega) | exact decide_eq_false (by omega) | rfl)) rfl ?_
  refine Ops.nil ?_
  refine Ex.next ?_
  refine Cod.cond rfl (fun h8 => ?_) (fun h8 => ?_)
  · try simp at h8
    refine Cod.seq ?_
    refine Cod.region ?_
    refine Ops.val (opV_assign rfl) rfl ?_
    refine Ops.val (opV_assign rfl) rfl ?_
    refine Ops.val (opV_assign rfl) rfl ?_
    refine Ops.nil ?_
    refine Ex.next ?_
    refine Cod.ret ?_
    refine Ex.thenRet ?_
    exact Ex.ret3 rfl rfl rfl rfl (fun _ h => h.subs (by first | ((repeat (first | exact Sub.refl | exact Sub.nil | apply Sub.emp | (apply Sub.cons; focus ((repeat (first | exact Pick.hd | apply Pick.tl)); done)) | (apply Sub.con; focus ((repeat (first | exact Pick.hd | apply Pick.tl)); done)) | (apply Sub.app; focus ((repeat (first | exact Pick.hd | apply Pick.tl)); done)) | apply Sub.drop)); done) | ((repeat (first | rw [List.append_assoc] | rw [List.cons_append] | rw [List.nil_append] | rw [List.append_nil])); (repeat (first | exact Sub.refl | exact Sub.nil | apply Sub.emp | (apply Sub.cons; focus ((repeat (first | exact Pick.hd | apply Pick.tl)); done)) | (apply Sub.con; focus ((repeat (first | exact Pick.hd | apply Pick.tl)); done)) | (apply Sub.app; focus ((repeat (first | exact Pick.hd | apply Pick.tl)); done)) | apply Sub.drop)); done))) (by unfold unwrapF; rw [if_pos (by omega)]; exact ⟨3, by decide, rfl, rfl⟩)
  · try simp at h8
    have e4 : (b.take 8).take 4 = b.take 4 := by rw [List.take_take]; rfl
    have e5 : ((b.take 8).drop 4).take 4 = (b.drop 4).take 4 := by rw [List.drop_take, List.take_take]; rfl
    obtain ⟨k, hk, hk'⟩ := rd4 (bs := (b.take 8).take 4) (by simp; omega)
    obtain ⟨k2, hk2, _⟩ := rd4 (bs := ((b.take 8).drop 4).take 4) (by simp; omega)
    have hs8 := hv.rsl (lo := 0) (hi := 8) (by omega) (by omega)
    have e8 : ((bcells b).drop (0 * 1)).take ((8 - 0) * 1) = bcells (b.take 8) := by simp [bcells]
    rw [e8] at hs8
    refine Cod.skip ?_
    refine Ex.next ?_
    refine Cod.seq ?_
    refine Cod.region ?_
    refine Ops.val (opV_move rfl) rfl ?_
    refine Ops.val (opV_slice Fx.sl_29 rfl hv (lo' := 0) (hi' := 8) rfl ⟨_, rfl⟩ (by omega) (by omega)) rfl ?_
    refine Ops.call rfl (opC_call Fx.cal_150 rfl (fun w hw => newReader (bs := b.take 8) (by simp; omega) hw hs8 hA (by simp; omega))) rfl ?_
    rintro v15 _ ⟨p, A1, rfl, hA1, rfl⟩
    refine Ops.val (opV_assign rfl) rfl ?_
    refine Ops.nil ?_
    refine Ex.next ?_
    refine Cod.seq ?_
    refine Cod.region ?_
    refine Ops.val (opV_move rfl) rfl ?_
    refine Ops.call rfl (opC_call Fx.cal_256 rfl (fun w hw => long_r hw .hd hA1 (by simp; omega) (by simp; omega))) rfl ?_
    rintro v17 _ ⟨rfl, A2, hA2, rfl⟩
    rw [hk]
    refine Ops.val (opV_move rfl) rfl ?_
    refine Ops.call rfl (opC_call Fx.cal_256 rfl (fun w hw => long_r hw .hd hA2 (by simp; omega) (by simp; omega))) rfl ?_
    rintro v19 _ ⟨rfl, A3, hA3, rfl⟩
    rw [hk2]
    refine Ops.val (opV_assign rfl) rfl ?_
    refine Ops.val (opV_assign rfl) rfl ?_
    refine Ops.nil ?_
    refine Ex.next ?_
    refine Cod.seq ?_
    refine Cod.block ?_
    refine Cod.seq ?_
    refine Cod.region ?_
    refine Ops.val (opV_move rfl) rfl ?_
    refine Ops.val (opV_gtr rfl rfl (by first | exact decide_eq_true (by omega) | exact decide_eq_false (by omega) | rfl)) rfl ?_
    refine Ops.val (opV_assign rfl) rfl ?_
    refine Ops.nil ?_
    refine Ex.next ?_
    refine Cod.cond rfl (fun hbig => ?_) (fun hbig => ?_)
    · try simp at hbig
      refine Cod.seq ?_
      refine Cod.region ?_
      refine Ops.val (opV_assign rfl) rfl ?_
      refine Ops.val (opV_assign rfl) rfl ?_
      refine Ops.val (opV_assign rfl) rfl ?_
      refine Ops.nil ?_
      refine Ex.next ?_
      refine Cod.ret ?_
      refine Ex.blockRet ?_
      refine Ex.thenRet ?_
      exact Ex.ret3 rfl rfl rfl rfl (fun _ h => Owns.tail h) (by unfold unwrapF; rw [if_neg (by omega), ← e4, hk, if_pos (by omega)]; exact ⟨1, by decide, rfl, rfl⟩)
    · try simp at hbig
      refine Cod.seq ?_
      refine Cod.region ?_
      refine Ops.val (opV_move rfl) rfl ?_
      refine Ops.val (opV_move rfl) rfl ?_
      refine Ops.val (opV_len Fx.sl_29 rfl hv.isSlice) rfl ?_
      refine Ops.val (opV_sub64 rfl rfl (by omega)) rfl ?_
      refine Ops.val (opV_gtr rfl rfl (by first | exact decide_eq_true (by omega) | exact decide_eq_false (by omega) | rfl)) rfl ?_
      refine Ops.val (opV_assign rfl) rfl ?_
      refine Ops.nil ?_
      refine Ex.next ?_
      refine Cod.cond rfl (fun hshort => ?_) (fun hshort => ?_)
      · try simp at hshort
        refine Cod.seq ?_
        refine Cod.region ?_
        refine Ops.val (opV_assign rfl) rfl ?_
        refine Ops.val (opV_assign rfl) rfl ?_
        refine Ops.val (opV_assign rfl) rfl ?_
        refine Ops.nil ?_
        refine Ex.next ?_
        refine Cod.ret ?_
        refine Ex.blockRet ?_
        refine Ex.thenRet ?_
        exact Ex.ret3 rfl rfl rfl rfl (fun _ h => Owns.tail h) (by unfold unwrapF; rw [if_neg (by omega), ← e4, hk, if_pos (by omega)]; exact ⟨3, by decide, rfl, rfl⟩)
      · try simp at hshort
        refine Cod.skip ?_
        refine Ex.blockNormal ?_
        refine Ex.next ?_
        refine Cod.seq ?_
        refine Cod.region ?_
        refine Ops.val (opV_move rfl) rfl ?_
        refine Ops.val (opV_add64 rfl rfl (by omega)) rfl ?_
        have ek : (8 : Int) + (k : Int) = ((8 + k : Nat) : Int) := by omega
        rw [ek]
        have hsd := hv.rsl3 (lo := 8) (hi := 8 + k) (mx := 8 + k) (by omega) (by omega) (by omega) (by omega)
        have ed : ((bcells b).drop (8 * 1)).take ((8 + k - 8) * 1) = bcells ((b.drop 8).take k) := by
            rw [show (8 + k - 8) * 1 = k by omega]; simp [bcells]
        have hdl : ((b.drop 8).take k).length = k := by simp; omega
        rw [ed, show 8 + k - 8 = k by omega] at hsd
        have hs4 := hv.rsl (lo := 0) (hi := 4) (by omega) (by omega)
        have e44 : ((bcells b).drop (0 * 1)).take ((4 - 0) * 1) = bcells (b.take 4) := by simp [bcells]
        rw [e44] at hs4
        have hAA : Has e (A3 :: As) A := by cases hA with | base => exact .base | mem h => exact .mem (.tail _ h)
        refine Ops.val (opV_assign rfl) rfl ?_
        refine Ops.nil ?_
        refine Ex.next ?_
        refine Cod.seq ?_
        refine Cod.region ?_
        refine Ops.val (opV_move rfl) rfl ?_
        refine Ops.val (opV_move rfl) rfl ?_
        refine Ops.val (opV_move rfl) rfl ?_
        refine Ops.val (opV_slice3 Fx.sl_29 rfl hv (lo' := 8) (hi' := 8 + k) (mx' := 8 + k) ⟨_, rfl⟩ ⟨rfl, _, rfl⟩ ⟨rfl, _, rfl⟩ (by omega) (by omega) (by omega)) rfl ?_
        refine Ops.val (opV_assign rfl) rfl ?_
        refine Ops.nil ?_
        refine Ex.next ?_
        refine Cod.seq ?_
        refine Cod.seq ?_
        refine Cod.region ?_
        refine Ops.val (opV_move rfl) rfl ?_
        refine Ops.val (opV_slice Fx.sl_29 rfl hv (lo' := 0) (hi' := 4) rfl ⟨_, rfl⟩ (by omega) (by omega)) rfl ?_
        refine Ops.call rfl (opC_call Fx.cal_254 rfl (fun w hw => over_spec (by simp; omega) hG hw hs4 hAA (by simp; omega))) rfl ?_
        rintro v37 _ ⟨rfl, rfl⟩
        refine Ops.val (opV_move rfl) rfl ?_
        refine Ops.call rfl (opC_call Fx.cal_254 rfl (fun w hw => over_spec hdl.symm hG hw hsd hAA (by simp; omega))) rfl ?_
        rintro v39 _ ⟨rfl, rfl⟩
        refine Ops.val (opV_xor rfl rfl) rfl ?_
        refine Ops.val (opV_conv Fx.und_2 Fx.undS_317 rfl) rfl ?_
        refine Ops.val (opV_move rfl) rfl ?_
        refine Ops.val (opV_neq rfl rfl (by first | exact decide_eq_true (by omega) | exact decide_eq_false (by omega) | rfl)) rfl ?_
        refine Ops.nil ?_
        refine Ex.next ?_
        refine Cod.cond rfl (fun hsum => ?_) (fun hsum => ?_)
        · try simp at hsum
          refine Cod.seq ?_
          refine Cod.region ?_
          refine Ops.val (opV_assign rfl) rfl ?_
          refine Ops.val (opV_assign rfl) rfl ?_
          refine Ops.val (opV_assign rfl) rfl ?_
          refine Ops.nil ?_
          refine Ex.next ?_
          refine Cod.ret ?_
          refine Ex.thenRet ?_
          exact Ex.ret3 rfl rfl rfl rfl (fun _ h => Owns.tail h) (by unfold unwrapF; rw [if_neg (by omega), ← e4, hk, if_neg (by omega), Int.toNat_natCast, ← e5, hk2, e4, if_neg (by simpa using hsum)]; exact ⟨9, by decide, rfl, rfl⟩)
        · try simp at hsum
          refine Cod.skip ?_
          refine Ex.next ?_
          refine Cod.seq ?_
          refine Cod.region ?_
          refine Ops.val (opV_move rfl) rfl ?_
          refine Ops.eff rfl (opE_appendNil Fx.sl_29 rfl Fx.ni_29 rfl rfl (hsd.src hAA (bcells_one _)) (by omega) (by simp [maxLen]; omega)) rfl ?_
          rintro v45 _ ⟨A45, hA45, rfl⟩
          refine Ops.val (opV_move rfl) rfl ?_
          refine Ops.val (opV_assign rfl) rfl ?_
          refine Ops.val (opV_assign rfl) rfl ?_
          refine Ops.val (opV_assign rfl) rfl ?_
          refine Ops.nil ?_
          refine Ex.next ?_
          refine Cod.ret ?_
          exact Ex.ret3 rfl rfl rfl rfl (fun _ h => h.subs (.cons .hd (.drop .refl))) (by unfold unwrapF; rw [if_neg (by omega), ← e4, hk, if_neg (by omega), Int.toNat_natCast, ← e5, hk2, e4, if_pos (by simpa using hsum)]; exact ⟨_, _, by rw [hdl], by simpa [hdl] using hA45, rfl⟩)
/-- The same with one form of answer. -/
theorem unwrap_spec' {b : Str} {m : Nat} (hm : m = b.length) (hG : HasNib e) (hw : Owns e w As) (hv : Sl A 1 v m (bcells b)) (hA : Has e As A) (hl : b.length ≤ 1000000000) :
    Calls Tryz.prog 211 #[v] w (Ret e fun u Bs => ∃ v' j err A', u = .tuple #[v', .int .i64 ((j : Nat) : Int), .int .i64 err] ∧ (err = 0 → ∃ d, unwrapF b = some d ∧ j = 8 + d.length ∧ Row 5 1 v' d.length (bcells d) A') ∧ (err ≠ 0 → unwrapF b = none) ∧ Bs = A' :: As) := by
  refine Calls.imp (unwrap_spec hm hG hw hv hA hl) ?_
  intro u Bs h
  cases hq : unwrapF b with
  | some d =>
    rw [hq] at h
    obtain ⟨v', A', rfl, hR, rfl⟩ := h
    exact fun w h => ⟨_, ⟨v', _, 0, A', rfl, fun _ => ⟨d, rfl, rfl, hR⟩, fun h => absurd rfl h, rfl⟩, h⟩
  | none =>
    rw [hq] at h
    obtain ⟨err, h0, rfl, rfl⟩ := h
    exact fun w h => ⟨_, ⟨_, 0, err, [], rfl, fun h => absurd h h0, fun _ => rfl, rfl⟩, h.sub (by simp)⟩
theorem unwrapF_len {b d : Str} (h : unwrapF b = some d) : 8 + d.length ≤ b.length := by
  unfold unwrapF at h
  split at h
  · cases h
  · dsimp only at h
    split at h
    · cases h
    · split at h
      · cases h; simp; omega
      · cases h
/-- Texts that can be read, one a cell. -/
inductive BL (A : Hp) : List Value → List Str → Prop
  | nil : BL A [] []
  | cons {v : Value} {d : Str} {vs : List Value} {ds : List Str} (h : Sl A 1 v d.length (bcells d)) (t : BL A vs ds) : BL A (v :: vs) (d :: ds)
theorem BL.mono {A B : Hp} {vs : List Value} {ds : List Str} (h : BL A vs ds) (hs : A ⊆ B) : BL B vs ds := by
  induction h with
  | nil => exact .nil
  | cons h _ ih => exact .cons (h.mono hs) ih
theorem BL.len {A : Hp} {vs : List Value} {ds : List Str} (h : BL A vs ds) : vs.length = ds.length := by
  induction h with
  | nil => rfl
  | cons _ _ ih => simp [ih]
theorem BL.snoc {A : Hp} {vs : List Value} {ds : List Str} {v : Value} {d : Str} (h : BL A vs ds) (hv : Sl A 1 v d.length (bcells d)) : BL A (vs ++ [v]) (ds ++ [d]) := by
  induction h with
  | nil => exact .cons hv .nil
  | cons h _ ih => exact .cons h ih
theorem BL.get {A : Hp} {vs : List Value} {ds : List Str} (h : BL A vs ds) {i : Nat} {d : Str} (hd : ds[i]? = some d) : ∃ v, vs[i]? = some v ∧ Sl A 1 v d.length (bcells d) := by
  induction h generalizing i with
  | nil => cases hd
  | cons h _ ih =>
    cases i with
    | zero => cases hd; exact ⟨_, rfl, h⟩
    | succ i => exact ih hd
theorem BL.one {A : Hp} {vs : List Value} {ds : List Str} (h : BL A vs ds) : ∀ u ∈ vs, u.oneCell' = true := by
  induction h with
  | nil => simp
  | cons h _ ih => intro u hu; rcases List.mem_cons.1 hu with rfl | hu; exact h.one; exact ih u hu
/-- What stands wrapped one behind the other. -/
inductive Wh : Str → List Str → Nat → Prop
  | stop {b : Str} (h : unwrapF b = none) : Wh b [] 0
  | step {b d : Str} {ds : List Str} {k : Nat} (h : unwrapF b = some d) (t : Wh (b.drop (8 + d.length)) ds k) : Wh b (d :: ds) (8 + d.length + k)
theorem Wh.det {b : Str} {ds ds' : List Str} {k k' : Nat} (h : Wh b ds k) (h' : Wh b ds' k') : ds = ds' ∧ k = k' := by
  induction h generalizing ds' k' with
  | stop h => cases h' with
    | stop => exact ⟨rfl, rfl⟩
    | step h2 => rw [h] at h2; cases h2
  | step h _ ih => cases h' with
    | stop h2 => rw [h] at h2; cases h2
    | step h2 t2 =>
      rw [h] at h2; cases h2
      obtain ⟨rfl, rfl⟩ := ih t2
      exact ⟨rfl, rfl⟩
theorem whole_spec {b : Str} {m : Nat} (hm : m = b.length) (hG : HasNib e) (hw : Owns e w As) (hv : Sl A 1 v m (bcells b)) (hA : Has e As A) (hl : b.length ≤ 1000000000) :
    Calls Tryz.prog 146 #[v] w (Ret e fun u Bs => ∃ ds k v' vs R A', Wh b ds k ∧ k ≤ b.length ∧ u = .tuple #[v', .int .i64 (k : Int)] ∧ Row 29 1 v' ds.length vs R ∧ BL A' vs ds ∧ Bs = R :: A' :: As) := by
  subst hm
  refine enter Tryz.func146 rfl Tryz.ntmps146 hw rfl ?_
  refine Cod.seq ?_
  refine Cod.region ?_
  refine Ops.val (opV_assign rfl) rfl ?_
  refine Ops.val (opV_assign rfl) rfl ?_
  refine Ops.nil ?_
  refine Ex.next ?_
  refine Cod.block ?_
  refine Cod.loop (X := List Str × Nat × Value × List Value × Hp × Hp) (fun (ds, k, v', vs, R, A') => [(0, v), (2, v'), (3, .int .i64 (k : Int))]) (fun (ds, k, v', vs, R, A') => R :: A' :: As) (fun (ds, k, v', vs, R, A') => k ≤ b.length ∧ ds.length ≤ k ∧ (∀ ds' k', Wh (b.drop k) ds' k' → Wh b (ds ++ ds') (k + k')) ∧ Row 29 1 v' ds.length vs R ∧ BL A' vs ds) (fun (ds, k, v', vs, R, A') => b.length - k) (([], 0, .slice none 0 0, [], [], [])) (⟨Nat.zero_le _, Nat.zero_le _, by simp, Row.nil _ _, .nil⟩) (by repeat (first | exact trivial | refine ⟨rfl, ?_⟩)) (fun _ h => h.subs (by first | ((repeat (first | exact Sub.refl | exact Sub.nil | apply Sub.emp | (apply Sub.cons; focus ((repeat (first | exact Pick.hd | apply Pick.tl)); done)) | (apply Sub.con; focus ((repeat (first | exact Pick.hd | apply Pick.tl)); done)) | (apply Sub.app; focus ((repeat (first | exact Pick.hd | apply Pick.tl)); done)) | apply Sub.drop)); done) | ((repeat (first | rw [List.append_assoc] | rw [List.cons_append] | rw [List.nil_append] | rw [List.append_nil])); (repeat (first | exact Sub.refl | exact Sub.nil | apply Sub.emp | (apply Sub.cons; focus ((repeat (first | exact Pick.hd | apply Pick.tl)); done)) | (apply Sub.con; focus ((repeat (first | exact Pick.hd | apply Pick.tl)); done)) | (apply Sub.app; focus ((repeat (first | exact Pick.hd | apply Pick.tl)); done)) | apply Sub.drop)); done))) ?_
  rintro ⟨ds, k, v', vs, R, A'⟩ ⟨hk, hdk, hW, hR, hB⟩
  try dsimp only
  have hsk := hv.rsl (lo := k) (hi := b.length) hk (Nat.le_refl _)
  have ek : ((bcells b).drop (k * 1)).take ((b.length - k) * 1) = bcells (b.drop k) := by
      simp [bcells, ← List.map_drop, List.take_of_length_le]
  rw [ek] at hsk
  refine Cod.block ?_
  refine Cod.seq ?_
  refine Cod.region ?_
  refine Ops.val (opV_move rfl) rfl ?_
  refine Ops.val (opV_move rfl) rfl ?_
  refine Ops.val (opV_slice Fx.sl_29 rfl hv (lo' := k) (hi' := b.length) ⟨_, rfl⟩ rfl hk (Nat.le_refl _)) rfl ?_
  have hAA : Has e (R :: A' :: As) A := by cases hA with | base => exact .base | mem h => exact .mem (.tail _ (.tail _ h))
  refine Ops.call rfl (opC_call Fx.cal_211 rfl (fun w hw => unwrap_spec' (b := b.drop k) (by simp) hG hw hsk hAA (by simp; omega))) rfl ?_
  rintro v11 _ ⟨v1, j, err, A1, rfl, h0, h1, rfl⟩
  refine Ops.val (opV_move rfl) rfl ?_
  refine Ops.val (opV_extract rfl rfl) rfl ?_
  refine Ops.val (opV_extract rfl rfl) rfl ?_
  refine Ops.val (opV_extract rfl rfl) rfl ?_
  refine Ops.val (opV_assign rfl) rfl ?_
  refine Ops.val (opV_assign rfl) rfl ?_
  refine Ops.val (opV_assign rfl) rfl ?_
  refine Ops.nil ?_
  refine Ex.next ?_
  refine Cod.seq ?_
  refine Cod.seq ?_
  refine Cod.region ?_
  refine Ops.val (opV_move rfl) rfl ?_
  refine Ops.val (opV_neq rfl rfl (by first | exact decide_eq_true (by omega) | exact decide_eq_false (by omega) | rfl)) rfl ?_
  refine Ops.nil ?_
  refine Ex.next ?_
  refine Cod.cond rfl (fun he => ?_) (fun he => ?_)
  · try simp at he
    refine Cod.seq ?_
    refine Cod.region ?_
    refine Ops.val (opV_move rfl) rfl ?_
    refine Ops.val (opV_move rfl) rfl ?_
    refine Ops.val (opV_assign rfl) rfl ?_
    refine Ops.val (opV_assign rfl) rfl ?_
    refine Ops.nil ?_
    refine Ex.next ?_
    refine Cod.ret ?_
    refine Ex.thenRet ?_
    refine Ex.blockRet ?_
    refine Ex.thenRet ?_
    refine Ex.blockRet ?_
    exact Ex.ret2 rfl rfl rfl (fun _ h => h.subs (by first | ((repeat (first | exact Sub.refl | exact Sub.nil | apply Sub.emp | (apply Sub.cons; focus ((repeat (first | exact Pick.hd | apply Pick.tl)); done)) | (apply Sub.con; focus ((repeat (first | exact Pick.hd | apply Pick.tl)); done)) | (apply Sub.app; focus ((repeat (first | exact Pick.hd | apply Pick.tl)); done)) | apply Sub.drop)); done) | ((repeat (first | rw [List.append_assoc] | rw [List.cons_append] | rw [List.nil_append] | rw [List.append_nil])); (repeat (first | exact Sub.refl | exact Sub.nil | apply Sub.emp | (apply Sub.cons; focus ((repeat (first | exact Pick.hd | apply Pick.tl)); done)) | (apply Sub.con; focus ((repeat (first | exact Pick.hd | apply Pick.tl)); done)) | (apply Sub.app; focus ((repeat (first | exact Pick.hd | apply Pick.tl)); done)) | apply Sub.drop)); done))) ⟨ds, k, v', vs, R, A', by simpa using hW [] 0 (.stop (h1 he)), hk, rfl, hR, hB, rfl⟩
  · try simp at he
    obtain ⟨d, hd, rfl, hRd⟩ := h0 he
    obtain ⟨a1, c1, rfl⟩ := hRd.isSlice
    have hdl := unwrapF_len hd
    simp only [List.length_drop] at hdl
    refine Cod.skip ?_
    refine Ex.next ?_
    refine Cod.seq ?_
    refine Cod.region ?_
    refine Ops.val (opV_move rfl) rfl ?_
    refine Ops.val (opV_move rfl) rfl ?_
    refine Ops.eff rfl (opE_buildSlice Fx.sl_22 rfl rfl (by first | (simp [fillL, rowCells, vcells, putAt]; rfl) | (simp [fillL, rowCells, vcells, putAt]; done) | rfl)) rfl ?_
    rintro _ _ ⟨b21, rfl, rfl⟩
    refine Ops.eff rfl (opE_append Fx.sl_22 rfl Fx.ni_22 rfl rfl (by repeat (first | exact Pick.hd | apply Pick.tl)) hR (one_src (.mem (by repeat (first | exact List.Mem.head _ | apply List.Mem.tail))) rfl (by simp [Value.oneCell'])) (by omega) (by simp [maxLen]; omega)) rfl ?_
    rintro v22 _ ⟨A22, hA22, rfl⟩
    have ekk : (k : Int) + ((8 + d.length : Nat) : Int) = ((k + (8 + d.length) : Nat) : Int) := by omega
    refine Ops.val (opV_assign rfl) rfl ?_
    refine Ops.nil ?_
    refine Ex.next ?_
    refine Cod.region ?_
    refine Ops.val (opV_move rfl) rfl ?_
    refine Ops.val (opV_move rfl) rfl ?_
    refine Ops.val (opV_add64 rfl rfl (by omega)) rfl ?_
    rw [ekk]
    refine Ops.val (opV_assign rfl) rfl ?_
    refine Ops.nil ?_
    refine Ex.blockNormal ?_
    refine Ex.toN (fun _ _ hs => ⟨(ds ++ [d], k + (8 + d.length), v22, vs ++ [_], A22, A' ++ A1), ⟨by dsimp only; omega, by simp; omega, fun ds' k' h => by have := hW (d :: ds') (8 + d.length + k') (.step hd (by rw [List.drop_drop]; exact h)); simpa [Nat.add_assoc] using this, by simpa using hA22, (hB.mono (by simp)).snoc (hRd.sl.mono (by simp))⟩, (by first | omega | (dsimp only; omega) | (simp; omega) | (simp; done)), hs⟩) (by repeat (first | exact trivial | refine ⟨rfl, ?_⟩)) (fun _ h => h.subs (by first | ((repeat (first | exact Sub.refl | exact Sub.nil | apply Sub.emp | (apply Sub.cons; focus ((repeat (first | exact Pick.hd | apply Pick.tl)); done)) | (apply Sub.con; focus ((repeat (first | exact Pick.hd | apply Pick.tl)); done)) | (apply Sub.app; focus ((repeat (first | exact Pick.hd | apply Pick.tl)); done)) | apply Sub.drop)); done) | ((repeat (first | rw [List.append_assoc] | rw [List.cons_append] | rw [List.nil_append] | rw [List.append_nil])); (repeat (first | exact Sub.refl | exact Sub.nil | apply Sub.emp | (apply Sub.cons; focus ((repeat (first | exact Pick.hd | apply Pick.tl)); done)) | (apply Sub.con; focus ((repeat (first | exact Pick.hd | apply Pick.tl)); done)) | (apply Sub.app; focus ((repeat (first | exact Pick.hd | apply Pick.tl)); done)) | apply Sub.drop)); done)))
end
end Go.Proofs.YteejmoldhbfdnaaGreatDoor.Seal
