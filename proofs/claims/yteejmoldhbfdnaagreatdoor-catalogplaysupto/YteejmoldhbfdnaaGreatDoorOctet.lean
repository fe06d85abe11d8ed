/- Package octet: what is written down. -/
import Derived.Test.YteejmoldhbfdnaaGreatDoorLib1
namespace Go.Proofs.YteejmoldhbfdnaaGreatDoor.Oct
open Go.W Go.RowKit Lib1
namespace Fx
theorem cal_207 : callable Tryz.prog 207 = true := by kernel_rfl
theorem cal_61 : callable Tryz.prog 61 = true := by kernel_rfl
theorem fld_290_0 : fieldOff Tryz.prog 290 0 = some 0 := by kernel_rfl
theorem fld_290_1 : fieldOff Tryz.prog 290 1 = some 1 := by kernel_rfl
theorem ni_29 : notInt Tryz.prog 29 = true := by kernel_rfl
theorem ni_9 : notInt Tryz.prog 9 = true := by kernel_rfl
theorem scal_29 : scalarB Tryz.prog 29 = true := by kernel_rfl
theorem scal_3 : scalarB Tryz.prog 3 = true := by kernel_rfl
theorem scal_5 : scalarB Tryz.prog 5 = true := by kernel_rfl
theorem sl_29 : slInfo Tryz.prog 29 = some (5, 1, 1, some (.int .u8 0)) := by kernel_rfl
theorem st_290 : stInfo Tryz.prog 290 = some (#[(.slice none 0 0), (.int .i64 0)], #[(0, 1), (1, 1)]) := by kernel_rfl
theorem sz1_29 : (Tryz.prog.info? 29).map (·.size) = some 1 := by kernel_rfl
theorem sz1_3 : (Tryz.prog.info? 3).map (·.size) = some 1 := by kernel_rfl
theorem sz1_5 : (Tryz.prog.info? 5).map (·.size) = some 1 := by kernel_rfl
theorem undS_2 : (Tryz.prog.underlying 2).isSome = true := by kernel_rfl
theorem und_5 : Tryz.prog.underlying 5 = some (.int .u8) := by kernel_rfl
theorem und_9 : Tryz.prog.underlying 9 = some .string := by kernel_rfl

end Fx

/-- The octet of weight j of a number. -/
def octAt (n : Int) (j : Nat) : UInt8 := UInt8.ofNat ((n / 2 ^ (8 * j)) % 256).toNat
/-- The k lowest octets of a number, the greatest weight first. -/
def be : Nat → Int → Str
  | 0, _ => []
  | k + 1, n => octAt n k :: be k n
theorem be_length (k : Nat) (n : Int) : (be k n).length = k := by induction k <;> simp [be, *]
theorem u8_oct (n : Int) (j : Nat) : IntKind.u8.wrap (n.fdiv (2 ^ (8 * j))) = ((octAt n j).toNat : Int) := by
  have h2 : (0 : Int) ≤ 2 ^ (8 * j) := Int.le_of_lt (Int.pow_pos (by omega))
  rw [Int.fdiv_eq_ediv_of_nonneg _ h2]
  unfold octAt
  generalize n / 2 ^ (8 * j) = q
  have h3 : IntKind.u8.wrap q = q % 256 := by simp [IntKind.wrap, IntKind.bits, IntKind.signed]
  rw [h3, UInt8.toNat_ofNat']
  omega

theorem number_spec {e : Ctx} {w : World} {F : List Hp} {p k : Nat} {bits n : Int} {v : Value} {bs : Str} {R : Hp} (hw : Owns e w ([(p, .cells #[v, .int .i64 bits] 290)] :: R :: F))
    (hR : Row 5 1 v bs.length (bcells bs) R) (hk : k ≤ 8) (hl : bs.length + 8 ≤ 1000000000) :
    Calls Tryz.prog 207 #[.pointer (some ⟨p, 0, none⟩), .int .i64 k, .int .i64 n] w
      (Ret e fun u Bs => u = .tuple #[] ∧ ∃ v' R', Row 5 1 v' (bs ++ be k n).length (bcells (bs ++ be k n)) R' ∧ Bs = [(p, .cells #[v', .int .i64 0] 290)] :: R' :: F) := by
  refine enter Tryz.func207 rfl Tryz.ntmps207 hw rfl ?_
  refine Cod.seq ?_
  refine Cod.region ?_
  refine Ops.val (opV_move rfl) rfl ?_
  refine Ops.val (opV_nil rfl) rfl ?_
  refine Ops.val (opV_field Fx.fld_290_1 rfl) rfl ?_
  refine Ops.st rfl (opS_store Fx.scal_3 Fx.sz1_3 rfl rfl (by first | rfl | assumption | exact Row.one (by assumption) | exact Sl.one (by assumption)) rfl (by repeat (first | exact Upd.hd | apply Upd.tl)) (by repeat (first | exact LSet.hd | apply LSet.tl))) ?_
  refine Ops.nil ?_
  refine Ex.next ?_
  refine Cod.seq ?_
  refine Cod.region ?_
  refine Ops.val (opV_move rfl) rfl ?_
  refine Ops.val (opV_sub64 rfl rfl (by omega)) rfl ?_
  refine Ops.val (opV_assign rfl) rfl ?_
  refine Ops.nil ?_
  refine Ex.next ?_
  refine Cod.block ?_
  refine Cod.loop (X := Nat × Value × Hp × Str) (fun (j, v, R, cs) => [(0, .pointer (some ⟨p, 0, none⟩)), (2, .int .i64 n), (6, .int .i64 ((j : Int) - 1))]) (fun (j, v, R, cs) => [(p, .cells #[v, .int .i64 0] 290)] :: R :: F) (fun (j, v, R, cs) => j ≤ k ∧ cs ++ be j n = bs ++ be k n ∧ cs.length ≤ bs.length + (k - j) ∧ Row 5 1 v cs.length (bcells cs) R) (fun (j, v, R, cs) => j) ((k, v, R, bs)) (⟨Nat.le_refl _, rfl, by simp, hR⟩) (by repeat (first | exact trivial | refine ⟨rfl, ?_⟩)) (fun _ h => h.subs (by first | ((repeat (first | exact Sub.refl | exact Sub.nil | apply Sub.emp | (apply Sub.cons; focus ((repeat (first | exact Pick.hd | apply Pick.tl)); done)) | (apply Sub.con; focus ((repeat (first | exact Pick.hd | apply Pick.tl)); done)) | (apply Sub.app; focus ((repeat (first | exact Pick.hd | apply Pick.tl)); done)) | apply Sub.drop)); done) | ((repeat (first | rw [List.append_assoc] | rw [List.cons_append] | rw [List.nil_append] | rw [List.append_nil])); (repeat (first | exact Sub.refl | exact Sub.nil | apply Sub.emp | (apply Sub.cons; focus ((repeat (first | exact Pick.hd | apply Pick.tl)); done)) | (apply Sub.con; focus ((repeat (first | exact Pick.hd | apply Pick.tl)); done)) | (apply Sub.app; focus ((repeat (first | exact Pick.hd | apply Pick.tl)); done)) | apply Sub.drop)); done))) ?_
  rintro ⟨j, v, R, cs⟩ ⟨hj, hcs, hlen, hR⟩
  try dsimp only
  refine Cod.seq ?_
  refine Cod.seq ?_
  refine Cod.region ?_
  refine Ops.val (opV_move rfl) rfl ?_
  refine Ops.val (opV_geq rfl rfl (by first | exact decide_eq_true (by omega) | exact decide_eq_false (by omega) | rfl)) rfl ?_
  refine Ops.nil ?_
  refine Ex.next ?_
  refine Cod.cond rfl (fun hc => ?_) (fun hc => ?_)
  · try simp at hc
    obtain ⟨j, rfl⟩ : ∃ j', j = j' + 1 := ⟨j - 1, by omega⟩
    have ej : (((j + 1 : Nat) : Int) - 1) = (j : Int) := by omega
    rw [ej]
    refine Cod.skip ?_
    refine Ex.next ?_
    refine Cod.seq ?_
    refine Cod.block ?_
    refine Cod.draw [4] [0, 1, 2, 3, 5, 6, 7, 8, 9, 12, 13] ([(p, .cells #[v, .int .i64 0] 290)] :: F) [0, 1, 2, 3, 4, 5, 6, 7, 8, 9, 10, 11, 12, 13, 14] M.mixed (by kernel_rfl) ?_
    refine AnyJ.valU rfl rfl rfl (opV_move rfl) rfl (fun _ _ _ h => h.2.elim) ?_
    refine AnyJ.valU rfl rfl rfl (opV_move rfl) rfl (fun _ _ _ h => h.2.elim) ?_
    refine AnyJ.valU rfl rfl rfl (opV_nil rfl) rfl (fun _ _ _ h => h.2.elim) ?_
    refine AnyJ.valU rfl rfl rfl (opV_field Fx.fld_290_0 rfl) rfl (fun _ _ _ h => h.2.elim) ?_
    refine AnyJ.val rfl rfl (opV_load Fx.scal_29 rfl (by repeat (first | exact Cell.one rfl | assumption | apply Cell.tl))) rfl (fun _ _ _ h => h.2.elim) (fun _ h => h.subs (by first | ((repeat (first | exact Sub.refl | exact Sub.nil | apply Sub.emp | (apply Sub.cons; focus ((repeat (first | exact Pick.hd | apply Pick.tl)); done)) | (apply Sub.con; focus ((repeat (first | exact Pick.hd | apply Pick.tl)); done)) | (apply Sub.app; focus ((repeat (first | exact Pick.hd | apply Pick.tl)); done)) | apply Sub.drop)); done) | ((repeat (first | rw [List.append_assoc] | rw [List.cons_append] | rw [List.nil_append] | rw [List.append_nil])); (repeat (first | exact Sub.refl | exact Sub.nil | apply Sub.emp | (apply Sub.cons; focus ((repeat (first | exact Pick.hd | apply Pick.tl)); done)) | (apply Sub.con; focus ((repeat (first | exact Pick.hd | apply Pick.tl)); done)) | (apply Sub.app; focus ((repeat (first | exact Pick.hd | apply Pick.tl)); done)) | apply Sub.drop)); done))) ?_
    refine AnyJ.valU rfl rfl rfl (opV_move rfl) rfl (fun _ _ _ h => h.2.elim) ?_
    refine AnyJ.valU rfl rfl rfl (opV_move rfl) rfl (fun _ _ _ h => h.2.elim) ?_
    refine AnyJ.valU rfl rfl rfl (opV_mul64 rfl rfl (by omega)) rfl (fun _ _ _ h => h.2.elim) ?_
    refine AnyJ.valU rfl rfl rfl (opV_shr rfl (s := 8 * j) rfl (by simp [IntKind.bits]; omega)) rfl (fun _ _ _ h => h.2.elim) ?_
    refine AnyJ.valU rfl rfl rfl (opV_conv Fx.und_5 Fx.undS_2 rfl) rfl (fun _ _ _ h => h.2.elim) ?_
    refine AnyJ.eff rfl rfl (opE_buildSlice Fx.sl_29 rfl rfl (by first | (simp [fillL, rowCells, vcells, putAt]; rfl) | (simp [fillL, rowCells, vcells, putAt]; done) | rfl)) rfl ?_
    rintro _ _ ⟨b26, rfl, rfl⟩
    refine ⟨(by first | (intro _ _ h; refine h.subs ?_; (repeat (first | exact Sub.refl | exact Sub.nil | apply Sub.emp | (apply Sub.cons; focus ((repeat (first | exact Pick.hd | apply Pick.tl)); done)) | (apply Sub.con; focus ((repeat (first | exact Pick.hd | apply Pick.tl)); done)) | (apply Sub.app; focus ((repeat (first | exact Pick.hd | apply Pick.tl)); done)) | apply Sub.drop)); done) | exact lead_no (by kernel_rfl)), ?_⟩
    refine AnyJ.eff rfl rfl (opE_append Fx.sl_29 rfl Fx.ni_29 rfl rfl (.tl (.tl .hd)) hR (one_src (.mem (by repeat (first | exact List.Mem.head _ | apply List.Mem.tail))) rfl (by simp [Value.oneCell'])) (by omega) (by simp [maxLen]; omega)) rfl ?_
    rintro v27 _ ⟨A27, hA27, rfl⟩
    refine ⟨(by first | (intro _ _ h; refine h.subs ?_; (repeat (first | exact Sub.refl | exact Sub.nil | apply Sub.emp | (apply Sub.cons; focus ((repeat (first | exact Pick.hd | apply Pick.tl)); done)) | (apply Sub.con; focus ((repeat (first | exact Pick.hd | apply Pick.tl)); done)) | (apply Sub.app; focus ((repeat (first | exact Pick.hd | apply Pick.tl)); done)) | apply Sub.drop)); done) | exact lead_no (by kernel_rfl)), ?_⟩
    rw [u8_oct] at hA27
    refine AnyJ.valU rfl rfl rfl (opV_nil rfl) rfl (fun _ _ _ h => h.2.elim) ?_
    refine AnyJ.valU rfl rfl rfl (opV_field Fx.fld_290_0 rfl) rfl (fun _ _ _ h => h.2.elim) ?_
    refine AnyJ.st rfl rfl (opS_store Fx.scal_29 Fx.sz1_29 rfl rfl (by first | rfl | assumption | exact Row.one (by assumption) | exact Sl.one (by assumption)) rfl (by repeat (first | exact Upd.hd | apply Upd.tl)) (by repeat (first | exact LSet.hd | apply LSet.tl))) (by first | (intro _ _ h; refine h.subs ?_; (repeat (first | exact Sub.refl | exact Sub.nil | apply Sub.emp | (apply Sub.cons; focus ((repeat (first | exact Pick.hd | apply Pick.tl)); done)) | (apply Sub.con; focus ((repeat (first | exact Pick.hd | apply Pick.tl)); done)) | (apply Sub.app; focus ((repeat (first | exact Pick.hd | apply Pick.tl)); done)) | apply Sub.drop)); done) | exact lead_no (by kernel_rfl)) ?_
    refine AnyJ.nil ?_
    refine Ex.blockNormal ?_
    refine Ex.next ?_
    refine Cod.region ?_
    refine Ops.val (opV_move rfl) rfl ?_
    refine Ops.val (opV_sub64 rfl rfl (by omega)) rfl ?_
    refine Ops.val (opV_assign rfl) rfl ?_
    refine Ops.nil ?_
    refine Ex.toN (fun _ _ hs => ⟨(j, v27, A27, cs ++ [octAt n j]), ⟨by omega, by simpa [be] using hcs, by simp; omega, by simpa [bcells] using hA27⟩, (by first | omega | (dsimp only; omega) | (simp; omega) | (simp; done)), hs⟩) (by repeat (first | exact trivial | refine ⟨rfl, ?_⟩)) (fun _ h => h.subs (by first | ((repeat (first | exact Sub.refl | exact Sub.nil | apply Sub.emp | (apply Sub.cons; focus ((repeat (first | exact Pick.hd | apply Pick.tl)); done)) | (apply Sub.con; focus ((repeat (first | exact Pick.hd | apply Pick.tl)); done)) | (apply Sub.app; focus ((repeat (first | exact Pick.hd | apply Pick.tl)); done)) | apply Sub.drop)); done) | ((repeat (first | rw [List.append_assoc] | rw [List.cons_append] | rw [List.nil_append] | rw [List.append_nil])); (repeat (first | exact Sub.refl | exact Sub.nil | apply Sub.emp | (apply Sub.cons; focus ((repeat (first | exact Pick.hd | apply Pick.tl)); done)) | (apply Sub.con; focus ((repeat (first | exact Pick.hd | apply Pick.tl)); done)) | (apply Sub.app; focus ((repeat (first | exact Pick.hd | apply Pick.tl)); done)) | apply Sub.drop)); done)))
  · try simp at hc
    obtain rfl : j = 0 := by omega
    simp only [be, List.append_nil] at hcs; subst hcs
    refine Cod.exit ?_
    refine Ex.thenExit ?_
    refine Ex.thenExit ?_
    refine Ex.blockHit ?_
    exact Ex.end0 rfl (fun _ h => h.subs (by first | ((repeat (first | exact Sub.refl | exact Sub.nil | apply Sub.emp | (apply Sub.cons; focus ((repeat (first | exact Pick.hd | apply Pick.tl)); done)) | (apply Sub.con; focus ((repeat (first | exact Pick.hd | apply Pick.tl)); done)) | (apply Sub.app; focus ((repeat (first | exact Pick.hd | apply Pick.tl)); done)) | apply Sub.drop)); done) | ((repeat (first | rw [List.append_assoc] | rw [List.cons_append] | rw [List.nil_append] | rw [List.append_nil])); (repeat (first | exact Sub.refl | exact Sub.nil | apply Sub.emp | (apply Sub.cons; focus ((repeat (first | exact Pick.hd | apply Pick.tl)); done)) | (apply Sub.con; focus ((repeat (first | exact Pick.hd | apply Pick.tl)); done)) | (apply Sub.app; focus ((repeat (first | exact Pick.hd | apply Pick.tl)); done)) | apply Sub.drop)); done))) ⟨rfl, v, R, hR, rfl⟩

/-- A Writer: its octets, its bits' count. -/
def WrA (p : Nat) (bits : Int) (bs : Str) (A : Hp) : Prop :=
  ∃ v R, Row 5 1 v bs.length (bcells bs) R ∧ A = (p, .cells #[v, .int .i64 bits] 290) :: R
section
variable {e : Ctx} {w : World} {As F : List Hp} {A : Hp} {p : Nat} {bits : Int} {bs : Str}
theorem number_w {k : Nat} {n : Int} (hw : Owns e w As) (hp : Pick As A F) (hA : WrA p bits bs A) (hk : k ≤ 8) (hl : bs.length + 8 ≤ 1000000000) :
    Calls Tryz.prog 207 #[.pointer (some ⟨p, 0, none⟩), .int .i64 k, .int .i64 n] w
      (Ret e fun u Bs => u = .tuple #[] ∧ ∃ A', WrA p 0 (bs ++ be k n) A' ∧ Bs = A' :: F) := by
  obtain ⟨v, R, hR, rfl⟩ := hA
  refine Calls.imp (number_spec (hw.pick hp).split hR hk hl) ?_
  rintro _ _ ⟨rfl, v', R', hR', rfl⟩ w h
  exact ⟨_, ⟨rfl, _, ⟨v', R', hR', rfl⟩, rfl⟩, h.join⟩

theorem newWriter (hw : Owns e w As) : Calls Tryz.prog 135 #[] w (Ret e fun u Bs => ∃ p A, u = .pointer (some ⟨p, 0, none⟩) ∧ WrA p 0 [] A ∧ Bs = A :: As) := by
  refine enter Tryz.func135 rfl Tryz.ntmps135 hw rfl ?_
  refine Cod.seq ?_
  refine Cod.region ?_
  refine Ops.val (opV_assign rfl) rfl ?_
  refine Ops.nil ?_
  refine Ex.next ?_
  refine Cod.seq ?_
  refine Cod.region ?_
  refine Ops.val (opV_build Fx.st_290 rfl (by first | (simp [fillL]; rfl) | (simp [fillL]; done) | rfl)) rfl ?_
  refine Ops.eff rfl (opE_box rfl) rfl ?_
  rintro _ _ ⟨b2, rfl, rfl⟩
  refine Ops.val (opV_assign rfl) rfl ?_
  refine Ops.nil ?_
  refine Ex.next ?_
  refine Cod.ret ?_
  exact Ex.ret1 rfl rfl (fun _ h => h.subs (by first | ((repeat (first | exact Sub.refl | exact Sub.nil | apply Sub.emp | (apply Sub.cons; focus ((repeat (first | exact Pick.hd | apply Pick.tl)); done)) | (apply Sub.con; focus ((repeat (first | exact Pick.hd | apply Pick.tl)); done)) | (apply Sub.app; focus ((repeat (first | exact Pick.hd | apply Pick.tl)); done)) | apply Sub.drop)); done) | ((repeat (first | rw [List.append_assoc] | rw [List.cons_append] | rw [List.nil_append] | rw [List.append_nil])); (repeat (first | exact Sub.refl | exact Sub.nil | apply Sub.emp | (apply Sub.cons; focus ((repeat (first | exact Pick.hd | apply Pick.tl)); done)) | (apply Sub.con; focus ((repeat (first | exact Pick.hd | apply Pick.tl)); done)) | (apply Sub.app; focus ((repeat (first | exact Pick.hd | apply Pick.tl)); done)) | apply Sub.drop)); done))) ⟨b2, _, rfl, ⟨_, [], Row.nil _ _, rfl⟩, rfl⟩

theorem longLong {n : Int} (hw : Owns e w As) (hp : Pick As A F) (hA : WrA p bits bs A) (hl : bs.length + 8 ≤ 1000000000) :
    Calls Tryz.prog 136 #[.pointer (some ⟨p, 0, none⟩), .int .i64 n] w
      (Ret e fun u Bs => u = .tuple #[] ∧ ∃ A', WrA p 0 (bs ++ be 8 n) A' ∧ Bs = A' :: F) := by
  refine enter Tryz.func136 rfl Tryz.ntmps136 hw rfl ?_
  refine Cod.region ?_
  refine Ops.val (opV_move rfl) rfl ?_
  refine Ops.val (opV_move rfl) rfl ?_
  refine Ops.call rfl (opC_call Fx.cal_207 rfl (fun w hw => number_w (k := 8) hw hp hA (by omega) hl)) rfl ?_
  rintro v6 _ ⟨rfl, A', hA', rfl⟩
  refine Ops.nil ?_
  exact Ex.end0 rfl (fun _ h => h.subs (by first | ((repeat (first | exact Sub.refl | exact Sub.nil | apply Sub.emp | (apply Sub.cons; focus ((repeat (first | exact Pick.hd | apply Pick.tl)); done)) | (apply Sub.con; focus ((repeat (first | exact Pick.hd | apply Pick.tl)); done)) | (apply Sub.app; focus ((repeat (first | exact Pick.hd | apply Pick.tl)); done)) | apply Sub.drop)); done) | ((repeat (first | rw [List.append_assoc] | rw [List.cons_append] | rw [List.nil_append] | rw [List.append_nil])); (repeat (first | exact Sub.refl | exact Sub.nil | apply Sub.emp | (apply Sub.cons; focus ((repeat (first | exact Pick.hd | apply Pick.tl)); done)) | (apply Sub.con; focus ((repeat (first | exact Pick.hd | apply Pick.tl)); done)) | (apply Sub.app; focus ((repeat (first | exact Pick.hd | apply Pick.tl)); done)) | apply Sub.drop)); done))) ⟨rfl, A', hA', rfl⟩

theorem long {n : Int} (hw : Owns e w As) (hp : Pick As A F) (hA : WrA p bits bs A) (hl : bs.length + 8 ≤ 1000000000) :
    Calls Tryz.prog 253 #[.pointer (some ⟨p, 0, none⟩), .int .i64 n] w
      (Ret e fun u Bs => u = .tuple #[] ∧ ∃ A', WrA p 0 (bs ++ be 4 n) A' ∧ Bs = A' :: F) := by
  refine enter Tryz.func253 rfl Tryz.ntmps253 hw rfl ?_
  refine Cod.region ?_
  refine Ops.val (opV_move rfl) rfl ?_
  refine Ops.val (opV_move rfl) rfl ?_
  refine Ops.call rfl (opC_call Fx.cal_207 rfl (fun w hw => number_w (k := 4) hw hp hA (by omega) hl)) rfl ?_
  rintro v6 _ ⟨rfl, A', hA', rfl⟩
  refine Ops.nil ?_
  exact Ex.end0 rfl (fun _ h => h.subs (by first | ((repeat (first | exact Sub.refl | exact Sub.nil | apply Sub.emp | (apply Sub.cons; focus ((repeat (first | exact Pick.hd | apply Pick.tl)); done)) | (apply Sub.con; focus ((repeat (first | exact Pick.hd | apply Pick.tl)); done)) | (apply Sub.app; focus ((repeat (first | exact Pick.hd | apply Pick.tl)); done)) | apply Sub.drop)); done) | ((repeat (first | rw [List.append_assoc] | rw [List.cons_append] | rw [List.nil_append] | rw [List.append_nil])); (repeat (first | exact Sub.refl | exact Sub.nil | apply Sub.emp | (apply Sub.cons; focus ((repeat (first | exact Pick.hd | apply Pick.tl)); done)) | (apply Sub.con; focus ((repeat (first | exact Pick.hd | apply Pick.tl)); done)) | (apply Sub.app; focus ((repeat (first | exact Pick.hd | apply Pick.tl)); done)) | apply Sub.drop)); done))) ⟨rfl, A', hA', rfl⟩

theorem octet {n : Int} (hw : Owns e w As) (hp : Pick As A F) (hA : WrA p bits bs A) (hl : bs.length + 8 ≤ 1000000000) :
    Calls Tryz.prog 291 #[.pointer (some ⟨p, 0, none⟩), .int .i64 n] w
      (Ret e fun u Bs => u = .tuple #[] ∧ ∃ A', WrA p 0 (bs ++ be 1 n) A' ∧ Bs = A' :: F) := by
  refine enter Tryz.func291 rfl Tryz.ntmps291 hw rfl ?_
  refine Cod.region ?_
  refine Ops.val (opV_move rfl) rfl ?_
  refine Ops.val (opV_move rfl) rfl ?_
  refine Ops.call rfl (opC_call Fx.cal_207 rfl (fun w hw => number_w (k := 1) hw hp hA (by omega) hl)) rfl ?_
  rintro v6 _ ⟨rfl, A', hA', rfl⟩
  refine Ops.nil ?_
  exact Ex.end0 rfl (fun _ h => h.subs (by first | ((repeat (first | exact Sub.refl | exact Sub.nil | apply Sub.emp | (apply Sub.cons; focus ((repeat (first | exact Pick.hd | apply Pick.tl)); done)) | (apply Sub.con; focus ((repeat (first | exact Pick.hd | apply Pick.tl)); done)) | (apply Sub.app; focus ((repeat (first | exact Pick.hd | apply Pick.tl)); done)) | apply Sub.drop)); done) | ((repeat (first | rw [List.append_assoc] | rw [List.cons_append] | rw [List.nil_append] | rw [List.append_nil])); (repeat (first | exact Sub.refl | exact Sub.nil | apply Sub.emp | (apply Sub.cons; focus ((repeat (first | exact Pick.hd | apply Pick.tl)); done)) | (apply Sub.con; focus ((repeat (first | exact Pick.hd | apply Pick.tl)); done)) | (apply Sub.app; focus ((repeat (first | exact Pick.hd | apply Pick.tl)); done)) | apply Sub.drop)); done))) ⟨rfl, A', hA', rfl⟩


theorem bcells_append (a b : Str) : bcells (a ++ b) = bcells a ++ bcells b := by simp [bcells]
theorem longStr {s : Str} (hw : Owns e w As) (hp : Pick As A F) (hA : WrA p bits bs A) (hl : bs.length + s.length + 8 ≤ 1000000000) :
    Calls Tryz.prog 137 #[.pointer (some ⟨p, 0, none⟩), S s] w
      (Ret e fun u Bs => u = .tuple #[] ∧ ∃ A', WrA p 0 (bs ++ be 4 s.length ++ s) A' ∧ Bs = A' :: F) := by
  refine enter Tryz.func137 rfl Tryz.ntmps137 hw rfl ?_
  refine Cod.seq ?_
  refine Cod.region ?_
  refine Ops.val (opV_move rfl) rfl ?_
  refine Ops.val (opV_move rfl) rfl ?_
  refine Ops.val (opV_slen Fx.und_9 rfl) rfl ?_
  refine Ops.call rfl (opC_call Fx.cal_207 rfl (fun w hw => number_w (k := 4) hw hp hA (by omega) (by omega))) rfl ?_
  rintro v7 _ ⟨rfl, A', ⟨v, R, hR, rfl⟩, rfl⟩
  refine Ops.weaken (Bs := [(p, .cells #[v, .int .i64 0] 290)] :: R :: F) (l' := [(0, .pointer (some ⟨p, 0, none⟩)), (1, S s)]) (by repeat (first | exact trivial | refine ⟨rfl, ?_⟩)) (fun _ h => h.split) ?_
  refine Ops.nil ?_
  refine Ex.next ?_
  refine Cod.region ?_
  refine Ops.val (opV_move rfl) rfl ?_
  refine Ops.val (opV_move rfl) rfl ?_
  refine Ops.val (opV_nil rfl) rfl ?_
  refine Ops.val (opV_field Fx.fld_290_0 rfl) rfl ?_
  refine Ops.val (opV_load Fx.scal_29 rfl (by repeat (first | exact Cell.one rfl | assumption | apply Cell.tl))) rfl ?_
  refine Ops.val (opV_move rfl) rfl ?_
  refine Ops.eff rfl (opE_append Fx.sl_29 rfl Fx.ni_9 rfl rfl (.tl .hd) hR (S_src s) (by simp only [List.length_append, be_length]; omega) (by simp only [List.length_append, be_length, maxLen]; omega)) rfl ?_
  rintro v14 _ ⟨A14, hA14, rfl⟩
  refine Ops.val (opV_nil rfl) rfl ?_
  refine Ops.val (opV_field Fx.fld_290_0 rfl) rfl ?_
  refine Ops.st rfl (opS_store Fx.scal_29 Fx.sz1_29 rfl rfl (by first | rfl | assumption | exact Row.one (by assumption) | exact Sl.one (by assumption)) rfl (by repeat (first | exact Upd.hd | apply Upd.tl)) (by repeat (first | exact LSet.hd | apply LSet.tl))) ?_
  refine Ops.nil ?_
  exact Ex.end0 rfl (fun _ h => Owns.join (h.subs (by first | ((repeat (first | exact Sub.refl | exact Sub.nil | apply Sub.emp | (apply Sub.cons; focus ((repeat (first | exact Pick.hd | apply Pick.tl)); done)) | (apply Sub.con; focus ((repeat (first | exact Pick.hd | apply Pick.tl)); done)) | (apply Sub.app; focus ((repeat (first | exact Pick.hd | apply Pick.tl)); done)) | apply Sub.drop)); done) | ((repeat (first | rw [List.append_assoc] | rw [List.cons_append] | rw [List.nil_append] | rw [List.append_nil])); (repeat (first | exact Sub.refl | exact Sub.nil | apply Sub.emp | (apply Sub.cons; focus ((repeat (first | exact Pick.hd | apply Pick.tl)); done)) | (apply Sub.con; focus ((repeat (first | exact Pick.hd | apply Pick.tl)); done)) | (apply Sub.app; focus ((repeat (first | exact Pick.hd | apply Pick.tl)); done)) | apply Sub.drop)); done)))) ⟨rfl, _, ⟨v14, A14, by simpa [bcells_append, Nat.add_assoc] using hA14, rfl⟩, rfl⟩

theorem bytes (hw : Owns e w As) (hA : Has e As A) (hW : WrA p bits bs A) (hl : bs.length ≤ 1000000000) :
    Calls Tryz.prog 138 #[.pointer (some ⟨p, 0, none⟩)] w
      (Ret e fun u Bs => ∃ A', Row 5 1 u bs.length (bcells bs) A' ∧ Bs = A' :: As) := by
  obtain ⟨v, R, hR, rfl⟩ := hW
  refine enter Tryz.func138 rfl Tryz.ntmps138 hw rfl ?_
  refine Cod.seq ?_
  refine Cod.region ?_
  refine Ops.val (opV_assign rfl) rfl ?_
  refine Ops.nil ?_
  refine Ex.next ?_
  refine Cod.seq ?_
  refine Cod.region ?_
  refine Ops.val (opV_move rfl) rfl ?_
  refine Ops.val (opV_nil rfl) rfl ?_
  refine Ops.val (opV_field Fx.fld_290_0 rfl) rfl ?_
  refine Ops.val (opV_load Fx.scal_29 rfl (cellOf hA (List.Mem.head _) rfl)) rfl ?_
  refine Ops.call rfl (opC_call Fx.cal_61 rfl (fun w hw => clone_bytes hw (hR.sl.mono (List.subset_cons_self _ _)) hA (bcells_one _) (by omega) (by omega))) rfl ?_
  rintro v7 _ ⟨A', hA', rfl⟩
  refine Ops.val (opV_assign rfl) rfl ?_
  refine Ops.nil ?_
  refine Ex.next ?_
  refine Cod.ret ?_
  exact Ex.ret1 rfl rfl (fun _ h => h.subs (by first | ((repeat (first | exact Sub.refl | exact Sub.nil | apply Sub.emp | (apply Sub.cons; focus ((repeat (first | exact Pick.hd | apply Pick.tl)); done)) | (apply Sub.con; focus ((repeat (first | exact Pick.hd | apply Pick.tl)); done)) | (apply Sub.app; focus ((repeat (first | exact Pick.hd | apply Pick.tl)); done)) | apply Sub.drop)); done) | ((repeat (first | rw [List.append_assoc] | rw [List.cons_append] | rw [List.nil_append] | rw [List.append_nil])); (repeat (first | exact Sub.refl | exact Sub.nil | apply Sub.emp | (apply Sub.cons; focus ((repeat (first | exact Pick.hd | apply Pick.tl)); done)) | (apply Sub.con; focus ((repeat (first | exact Pick.hd | apply Pick.tl)); done)) | (apply Sub.app; focus ((repeat (first | exact Pick.hd | apply Pick.tl)); done)) | apply Sub.drop)); done))) ⟨A', hA', rfl⟩

theorem raw {s : Str} {u : Value} {m : Nat} {B : Hp} (hw : Owns e w As) (hp : Pick As A F) (hA : WrA p bits bs A) (hm : m = s.length) (hu : Sl B 1 u m (bcells s)) (hB : Has e F B) (hl : bs.length + s.length ≤ 1000000000) :
    Calls Tryz.prog 172 #[.pointer (some ⟨p, 0, none⟩), u] w
      (Ret e fun u Bs => u = .tuple #[] ∧ ∃ A', WrA p 0 (bs ++ s) A' ∧ Bs = A' :: F) := by
  subst hm
  obtain ⟨v, R, hR, rfl⟩ := hA
  obtain ⟨au, cu, rfl⟩ := hu.isSlice
  refine enter Tryz.func172 rfl Tryz.ntmps172 (hw.pick hp).split rfl ?_
  refine Cod.seq ?_
  refine Cod.region ?_
  refine Ops.val (opV_move rfl) rfl ?_
  refine Ops.val (opV_nil rfl) rfl ?_
  refine Ops.val (opV_field Fx.fld_290_1 rfl) rfl ?_
  refine Ops.st rfl (opS_store Fx.scal_3 Fx.sz1_3 rfl rfl (by first | rfl | assumption | exact Row.one (by assumption) | exact Sl.one (by assumption)) rfl (by repeat (first | exact Upd.hd | apply Upd.tl)) (by repeat (first | exact LSet.hd | apply LSet.tl))) ?_
  refine Ops.nil ?_
  refine Ex.next ?_
  refine Cod.region ?_
  refine Ops.val (opV_move rfl) rfl ?_
  refine Ops.val (opV_move rfl) rfl ?_
  refine Ops.val (opV_nil rfl) rfl ?_
  refine Ops.val (opV_field Fx.fld_290_0 rfl) rfl ?_
  refine Ops.val (opV_load Fx.scal_29 rfl (by repeat (first | exact Cell.one rfl | assumption | apply Cell.tl))) rfl ?_
  refine Ops.val (opV_move rfl) rfl ?_
  refine Ops.eff rfl (opE_append Fx.sl_29 rfl Fx.ni_29 rfl rfl (.tl .hd) hR (hu.src (by cases hB with | base => exact .base | mem h => exact .mem (.tail _ (.tail _ h))) (bcells_one s)) (by omega) (by simp [maxLen]; omega)) rfl ?_
  rintro v13 _ ⟨A13, hA13, rfl⟩
  refine Ops.val (opV_nil rfl) rfl ?_
  refine Ops.val (opV_field Fx.fld_290_0 rfl) rfl ?_
  refine Ops.st rfl (opS_store Fx.scal_29 Fx.sz1_29 rfl rfl (by first | rfl | assumption | exact Row.one (by assumption) | exact Sl.one (by assumption)) rfl (by repeat (first | exact Upd.hd | apply Upd.tl)) (by repeat (first | exact LSet.hd | apply LSet.tl))) ?_
  refine Ops.nil ?_
  exact Ex.end0 rfl (fun _ h => Owns.join (h.subs (by first | ((repeat (first | exact Sub.refl | exact Sub.nil | apply Sub.emp | (apply Sub.cons; focus ((repeat (first | exact Pick.hd | apply Pick.tl)); done)) | (apply Sub.con; focus ((repeat (first | exact Pick.hd | apply Pick.tl)); done)) | (apply Sub.app; focus ((repeat (first | exact Pick.hd | apply Pick.tl)); done)) | apply Sub.drop)); done) | ((repeat (first | rw [List.append_assoc] | rw [List.cons_append] | rw [List.nil_append] | rw [List.append_nil])); (repeat (first | exact Sub.refl | exact Sub.nil | apply Sub.emp | (apply Sub.cons; focus ((repeat (first | exact Pick.hd | apply Pick.tl)); done)) | (apply Sub.con; focus ((repeat (first | exact Pick.hd | apply Pick.tl)); done)) | (apply Sub.app; focus ((repeat (first | exact Pick.hd | apply Pick.tl)); done)) | apply Sub.drop)); done)))) ⟨rfl, _, ⟨v13, A13, by simpa [bcells_append] using hA13, rfl⟩, rfl⟩

theorem bit1 : bitop .or .u8 0 (IntKind.u8.wrap 1) = 1 := by decide
theorem bit_w {del : Bool} (hw : Owns e w As) (hp : Pick As A F) (hA : WrA p 0 bs A) (hl : bs.length + 8 ≤ 1000000000) :
    Calls Tryz.prog 141 #[.pointer (some ⟨p, 0, none⟩), .bool del] w
      (Ret e fun u Bs => u = .tuple #[] ∧ ∃ A', WrA p 1 (bs ++ [if del then 1 else 0]) A' ∧ Bs = A' :: F) := by
  obtain ⟨v, R, hR, rfl⟩ := hA
  refine enter Tryz.func141 rfl Tryz.ntmps141 (hw.pick hp).split rfl ?_
  refine Cod.seq ?_
  refine Cod.seq ?_
  refine Cod.region ?_
  refine Ops.val (opV_move rfl) rfl ?_
  refine Ops.val (opV_nil rfl) rfl ?_
  refine Ops.val (opV_field Fx.fld_290_1 rfl) rfl ?_
  refine Ops.val (opV_load Fx.scal_3 rfl (by repeat (first | exact Cell.one rfl | assumption | apply Cell.tl))) rfl ?_
  refine Ops.val (opV_eql rfl rfl (by first | exact decide_eq_true (by omega) | exact decide_eq_false (by omega) | rfl)) rfl ?_
  refine Ops.val (opV_move rfl) rfl ?_
  refine Ops.skipg rfl rfl ?_
  refine Ops.skipg rfl rfl ?_
  refine Ops.skipg rfl rfl ?_
  refine Ops.skipg rfl rfl ?_
  refine Ops.skipg rfl rfl ?_
  refine Ops.val (opV_pickT rfl rfl) rfl ?_
  refine Ops.nil ?_
  refine Ex.next ?_
  refine Cod.condT rfl ?_
  refine Cod.seq ?_
  refine Cod.region ?_
  refine Ops.val (opV_move rfl) rfl ?_
  refine Ops.val (opV_move rfl) rfl ?_
  refine Ops.val (opV_nil rfl) rfl ?_
  refine Ops.val (opV_field Fx.fld_290_0 rfl) rfl ?_
  refine Ops.val (opV_load Fx.scal_29 rfl (by repeat (first | exact Cell.one rfl | assumption | apply Cell.tl))) rfl ?_
  refine Ops.eff rfl (opE_buildSlice Fx.sl_29 rfl rfl (by first | (simp [fillL, rowCells, vcells, putAt]; rfl) | (simp [fillL, rowCells, vcells, putAt]; done) | rfl)) rfl ?_
  rintro _ _ ⟨b21, rfl, rfl⟩
  refine Ops.eff rfl (opE_append Fx.sl_29 rfl Fx.ni_29 rfl rfl (.tl (.tl .hd)) hR (one_src (.mem (by repeat (first | exact List.Mem.head _ | apply List.Mem.tail))) rfl (by simp [Value.oneCell'])) (by omega) (by simp [maxLen]; omega)) rfl ?_
  rintro v22 _ ⟨A22, hA22, rfl⟩
  refine Ops.val (opV_nil rfl) rfl ?_
  refine Ops.val (opV_field Fx.fld_290_0 rfl) rfl ?_
  refine Ops.st rfl (opS_store Fx.scal_29 Fx.sz1_29 rfl rfl (by first | rfl | assumption | exact Row.one (by assumption) | exact Sl.one (by assumption)) rfl (by repeat (first | exact Upd.hd | apply Upd.tl)) (by repeat (first | exact LSet.hd | apply LSet.tl))) ?_
  refine Ops.nil ?_
  refine Ex.next ?_
  refine Cod.region ?_
  refine Ops.val (opV_move rfl) rfl ?_
  refine Ops.val (opV_nil rfl) rfl ?_
  refine Ops.val (opV_field Fx.fld_290_1 rfl) rfl ?_
  refine Ops.st rfl (opS_store Fx.scal_3 Fx.sz1_3 rfl rfl (by first | rfl | assumption | exact Row.one (by assumption) | exact Sl.one (by assumption)) rfl (by repeat (first | exact Upd.hd | apply Upd.tl)) (by repeat (first | exact LSet.hd | apply LSet.tl))) ?_
  refine Ops.nil ?_
  refine Ex.next ?_
  refine Cod.seq ?_
  refine Cod.seq ?_
  refine Cod.region ?_
  refine Ops.val (opV_move rfl) rfl ?_
  refine Ops.nil ?_
  refine Ex.next ?_
  refine Cod.cond rfl (fun hd => ?_) (fun hd => ?_)
  · try simp at hd
    refine Cod.draw [3, 7, 11, 15] [0, 1, 2, 4, 5, 6, 8, 9, 10, 12, 13, 14, 16, 17, 18] ([(p, .cells #[v22, .int .i64 0] 290)] :: A22 :: F) [0, 1, 2, 3, 4, 5, 6, 7, 8, 9, 10, 11, 12, 13, 14, 15, 16, 17, 18, 19] M.mixed (by kernel_rfl) ?_
    refine AnyJ.valU rfl rfl rfl (opV_move rfl) rfl (fun _ _ _ h => h.2.elim) ?_
    refine AnyJ.valU rfl rfl rfl (opV_nil rfl) rfl (fun _ _ _ h => h.2.elim) ?_
    refine AnyJ.valU rfl rfl rfl (opV_field Fx.fld_290_0 rfl) rfl (fun _ _ _ h => h.2.elim) ?_
    refine AnyJ.val rfl rfl (opV_load Fx.scal_29 rfl (by repeat (first | exact Cell.one rfl | assumption | apply Cell.tl))) rfl (fun _ _ _ h => h.2.elim) (fun _ h => h.subs (by first | ((repeat (first | exact Sub.refl | exact Sub.nil | apply Sub.emp | (apply Sub.cons; focus ((repeat (first | exact Pick.hd | apply Pick.tl)); done)) | (apply Sub.con; focus ((repeat (first | exact Pick.hd | apply Pick.tl)); done)) | (apply Sub.app; focus ((repeat (first | exact Pick.hd | apply Pick.tl)); done)) | apply Sub.drop)); done) | ((repeat (first | rw [List.append_assoc] | rw [List.cons_append] | rw [List.nil_append] | rw [List.append_nil])); (repeat (first | exact Sub.refl | exact Sub.nil | apply Sub.emp | (apply Sub.cons; focus ((repeat (first | exact Pick.hd | apply Pick.tl)); done)) | (apply Sub.con; focus ((repeat (first | exact Pick.hd | apply Pick.tl)); done)) | (apply Sub.app; focus ((repeat (first | exact Pick.hd | apply Pick.tl)); done)) | apply Sub.drop)); done))) ?_
    refine AnyJ.valU rfl rfl rfl (opV_move rfl) rfl (fun _ _ _ h => h.2.elim) ?_
    refine AnyJ.valU rfl rfl rfl (opV_nil rfl) rfl (fun _ _ _ h => h.2.elim) ?_
    refine AnyJ.valU rfl rfl rfl (opV_field Fx.fld_290_0 rfl) rfl (fun _ _ _ h => h.2.elim) ?_
    refine AnyJ.val rfl rfl (opV_load Fx.scal_29 rfl (by repeat (first | exact Cell.one rfl | assumption | apply Cell.tl))) rfl (fun _ _ _ h => h.2.elim) (fun _ h => h.subs (by first | ((repeat (first | exact Sub.refl | exact Sub.nil | apply Sub.emp | (apply Sub.cons; focus ((repeat (first | exact Pick.hd | apply Pick.tl)); done)) | (apply Sub.con; focus ((repeat (first | exact Pick.hd | apply Pick.tl)); done)) | (apply Sub.app; focus ((repeat (first | exact Pick.hd | apply Pick.tl)); done)) | apply Sub.drop)); done) | ((repeat (first | rw [List.append_assoc] | rw [List.cons_append] | rw [List.nil_append] | rw [List.append_nil])); (repeat (first | exact Sub.refl | exact Sub.nil | apply Sub.emp | (apply Sub.cons; focus ((repeat (first | exact Pick.hd | apply Pick.tl)); done)) | (apply Sub.con; focus ((repeat (first | exact Pick.hd | apply Pick.tl)); done)) | (apply Sub.app; focus ((repeat (first | exact Pick.hd | apply Pick.tl)); done)) | apply Sub.drop)); done))) ?_
    refine AnyJ.valU rfl rfl rfl (opV_len Fx.sl_29 rfl (by first | exact ⟨_, _, rfl⟩ | exact Sl.isSlice (by assumption) | exact (Row.sl (by assumption)).isSlice)) rfl (fun _ _ _ h => h.2.elim) ?_
    refine AnyJ.valU rfl rfl rfl (opV_sub64 rfl rfl (by omega)) rfl (fun _ _ _ h => h.2.elim) ?_
    refine AnyJ.valU rfl rfl rfl (opV_indexAddr Fx.sl_29 rfl hA22.sl (k := bs.length) (congrArg (fun z => some (Value.int .i64 z)) (show ((bs.length + 1 : Nat) : Int) - 1 = bs.length by omega)) (by omega)) rfl (fun _ _ _ h => h.2.elim) ?_
    refine AnyJ.val rfl rfl (opV_loadE Fx.scal_5 rfl hA22.sl (.mem (by repeat (first | exact List.Mem.head _ | apply List.Mem.tail))) (u := .int .u8 0) (by simp [bcells])) rfl (fun _ _ _ h => h.2.elim) (fun _ h => h.subs (by first | ((repeat (first | exact Sub.refl | exact Sub.nil | apply Sub.emp | (apply Sub.cons; focus ((repeat (first | exact Pick.hd | apply Pick.tl)); done)) | (apply Sub.con; focus ((repeat (first | exact Pick.hd | apply Pick.tl)); done)) | (apply Sub.app; focus ((repeat (first | exact Pick.hd | apply Pick.tl)); done)) | apply Sub.drop)); done) | ((repeat (first | rw [List.append_assoc] | rw [List.cons_append] | rw [List.nil_append] | rw [List.append_nil])); (repeat (first | exact Sub.refl | exact Sub.nil | apply Sub.emp | (apply Sub.cons; focus ((repeat (first | exact Pick.hd | apply Pick.tl)); done)) | (apply Sub.con; focus ((repeat (first | exact Pick.hd | apply Pick.tl)); done)) | (apply Sub.app; focus ((repeat (first | exact Pick.hd | apply Pick.tl)); done)) | apply Sub.drop)); done))) ?_
    refine AnyJ.valU rfl rfl rfl (opV_move rfl) rfl (fun _ _ _ h => h.2.elim) ?_
    refine AnyJ.valU rfl rfl rfl (opV_nil rfl) rfl (fun _ _ _ h => h.2.elim) ?_
    refine AnyJ.valU rfl rfl rfl (opV_field Fx.fld_290_1 rfl) rfl (fun _ _ _ h => h.2.elim) ?_
    refine AnyJ.val rfl rfl (opV_load Fx.scal_3 rfl (by repeat (first | exact Cell.one rfl | assumption | apply Cell.tl))) rfl (fun _ _ _ h => h.2.elim) (fun _ h => h.subs (by first | ((repeat (first | exact Sub.refl | exact Sub.nil | apply Sub.emp | (apply Sub.cons; focus ((repeat (first | exact Pick.hd | apply Pick.tl)); done)) | (apply Sub.con; focus ((repeat (first | exact Pick.hd | apply Pick.tl)); done)) | (apply Sub.app; focus ((repeat (first | exact Pick.hd | apply Pick.tl)); done)) | apply Sub.drop)); done) | ((repeat (first | rw [List.append_assoc] | rw [List.cons_append] | rw [List.nil_append] | rw [List.append_nil])); (repeat (first | exact Sub.refl | exact Sub.nil | apply Sub.emp | (apply Sub.cons; focus ((repeat (first | exact Pick.hd | apply Pick.tl)); done)) | (apply Sub.con; focus ((repeat (first | exact Pick.hd | apply Pick.tl)); done)) | (apply Sub.app; focus ((repeat (first | exact Pick.hd | apply Pick.tl)); done)) | apply Sub.drop)); done))) ?_
    refine AnyJ.valU rfl rfl rfl (opV_shl (s := 0) rfl rfl (by simp [IntKind.bits])) rfl (fun _ _ _ h => h.2.elim) ?_
    refine AnyJ.valU rfl rfl rfl (opV_or' rfl rfl) rfl (fun _ _ _ h => h.2.elim) ?_
    refine AnyJ.valU rfl rfl rfl (opV_indexAddr Fx.sl_29 rfl hA22.sl (k := bs.length) (congrArg (fun z => some (Value.int .i64 z)) (show ((bs.length + 1 : Nat) : Int) - 1 = bs.length by omega)) (by omega)) rfl (fun _ _ _ h => h.2.elim) ?_
    refine AnyJ.stE rfl rfl (opS_storeE Fx.scal_5 Fx.sz1_5 rfl rfl (by first | rfl | assumption | exact Row.one (by assumption) | exact Sl.one (by assumption)) .hd hA22 (by simp [bcells]) ) ?_
    rintro _ ⟨A23, hA23, rfl⟩
    refine ⟨(by first | (intro _ _ h; refine h.subs ?_; (repeat (first | exact Sub.refl | exact Sub.nil | apply Sub.emp | (apply Sub.cons; focus ((repeat (first | exact Pick.hd | apply Pick.tl)); done)) | (apply Sub.con; focus ((repeat (first | exact Pick.hd | apply Pick.tl)); done)) | (apply Sub.app; focus ((repeat (first | exact Pick.hd | apply Pick.tl)); done)) | apply Sub.drop)); done) | exact lead_no (by kernel_rfl)), ?_⟩
    refine AnyJ.nil ?_
    refine Ex.next ?_
    refine Cod.region ?_
    refine Ops.val (opV_move rfl) rfl ?_
    refine Ops.val (opV_nil rfl) rfl ?_
    refine Ops.val (opV_field Fx.fld_290_1 rfl) rfl ?_
    refine Ops.val (opV_load Fx.scal_3 rfl (by repeat (first | exact Cell.one rfl | assumption | apply Cell.tl))) rfl ?_
    refine Ops.val (opV_add64 rfl rfl (by omega)) rfl ?_
    refine Ops.val (opV_nil rfl) rfl ?_
    refine Ops.val (opV_field Fx.fld_290_1 rfl) rfl ?_
    refine Ops.st rfl (opS_store Fx.scal_3 Fx.sz1_3 rfl rfl (by first | rfl | assumption | exact Row.one (by assumption) | exact Sl.one (by assumption)) rfl (by repeat (first | exact Upd.hd | apply Upd.tl)) (by repeat (first | exact LSet.hd | apply LSet.tl))) ?_
    refine Ops.nil ?_
    exact Ex.end0 rfl (fun _ h => Owns.join (h.subs (by first | ((repeat (first | exact Sub.refl | exact Sub.nil | apply Sub.emp | (apply Sub.cons; focus ((repeat (first | exact Pick.hd | apply Pick.tl)); done)) | (apply Sub.con; focus ((repeat (first | exact Pick.hd | apply Pick.tl)); done)) | (apply Sub.app; focus ((repeat (first | exact Pick.hd | apply Pick.tl)); done)) | apply Sub.drop)); done) | ((repeat (first | rw [List.append_assoc] | rw [List.cons_append] | rw [List.nil_append] | rw [List.append_nil])); (repeat (first | exact Sub.refl | exact Sub.nil | apply Sub.emp | (apply Sub.cons; focus ((repeat (first | exact Pick.hd | apply Pick.tl)); done)) | (apply Sub.con; focus ((repeat (first | exact Pick.hd | apply Pick.tl)); done)) | (apply Sub.app; focus ((repeat (first | exact Pick.hd | apply Pick.tl)); done)) | apply Sub.drop)); done)))) ⟨rfl, _, ⟨v22, A23, by subst hd; simpa [bcells, List.set_append, bit1] using hA23, rfl⟩, rfl⟩
  · try simp at hd
    refine Cod.skip ?_
    refine Ex.next ?_
    refine Cod.region ?_
    refine Ops.val (opV_move rfl) rfl ?_
    refine Ops.val (opV_nil rfl) rfl ?_
    refine Ops.val (opV_field Fx.fld_290_1 rfl) rfl ?_
    refine Ops.val (opV_load Fx.scal_3 rfl (by repeat (first | exact Cell.one rfl | assumption | apply Cell.tl))) rfl ?_
    refine Ops.val (opV_add64 rfl rfl (by omega)) rfl ?_
    refine Ops.val (opV_nil rfl) rfl ?_
    refine Ops.val (opV_field Fx.fld_290_1 rfl) rfl ?_
    refine Ops.st rfl (opS_store Fx.scal_3 Fx.sz1_3 rfl rfl (by first | rfl | assumption | exact Row.one (by assumption) | exact Sl.one (by assumption)) rfl (by repeat (first | exact Upd.hd | apply Upd.tl)) (by repeat (first | exact LSet.hd | apply LSet.tl))) ?_
    refine Ops.nil ?_
    exact Ex.end0 rfl (fun _ h => Owns.join (h.subs (by first | ((repeat (first | exact Sub.refl | exact Sub.nil | apply Sub.emp | (apply Sub.cons; focus ((repeat (first | exact Pick.hd | apply Pick.tl)); done)) | (apply Sub.con; focus ((repeat (first | exact Pick.hd | apply Pick.tl)); done)) | (apply Sub.app; focus ((repeat (first | exact Pick.hd | apply Pick.tl)); done)) | apply Sub.drop)); done) | ((repeat (first | rw [List.append_assoc] | rw [List.cons_append] | rw [List.nil_append] | rw [List.append_nil])); (repeat (first | exact Sub.refl | exact Sub.nil | apply Sub.emp | (apply Sub.cons; focus ((repeat (first | exact Pick.hd | apply Pick.tl)); done)) | (apply Sub.con; focus ((repeat (first | exact Pick.hd | apply Pick.tl)); done)) | (apply Sub.app; focus ((repeat (first | exact Pick.hd | apply Pick.tl)); done)) | apply Sub.drop)); done)))) ⟨rfl, _, ⟨v22, A22, by subst hd; simpa [bcells] using hA22, rfl⟩, rfl⟩
end
end Go.Proofs.YteejmoldhbfdnaaGreatDoor.Oct
