/- warrenlaw14.BodiesFull, walked. -/
import Derived.Test.YteejmoldhbfdnaaGreatDoorBInv
set_option maxRecDepth 8000
namespace Go.Proofs.YteejmoldhbfdnaaGreatDoor.Full14
open Go.W Go.RowKit Lib1 Oct OctR Seal Disk Disk2 Wal Num Wal2 Wal3 Bod Bod2 Bod3 Bod4 Law14 Tells14 BInv
namespace Fx
theorem cal_10 : callable Tryz.prog 10 = true := by kernel_rfl
theorem cal_11 : callable Tryz.prog 11 = true := by kernel_rfl
theorem cal_12 : callable Tryz.prog 12 = true := by kernel_rfl
theorem cal_13 : callable Tryz.prog 13 = true := by kernel_rfl
theorem cal_14 : callable Tryz.prog 14 = true := by kernel_rfl
theorem cal_15 : callable Tryz.prog 15 = true := by kernel_rfl
theorem ni_28 : notInt Tryz.prog 28 = true := by kernel_rfl
theorem ptr_25 : ptrT Tryz.prog 25 = true := by kernel_rfl
theorem scal_29 : scalarB Tryz.prog 29 = true := by kernel_rfl
theorem sl_22 : slInfo Tryz.prog 22 = some (29, 1, 24, some (.slice none 0 0)) := by kernel_rfl
theorem sl_28 : slInfo Tryz.prog 28 = some (36, 4, 48, some (.agg #[(.int .i64 0), (.int .i64 0), (.slice none 0 0), (.bool false)])) := by kernel_rfl
theorem sl_29 : slInfo Tryz.prog 29 = some (5, 1, 1, some (.int .u8 0)) := by kernel_rfl
theorem st_36 : stInfo Tryz.prog 36 = some (#[(.int .i64 0), (.int .i64 0), (.slice none 0 0), (.bool false)], #[(0, 1), (1, 1), (2, 1), (3, 1)]) := by kernel_rfl

end Fx
def Uf (bs : List Str) (i : Nat) : Nat := ((bs.take i).map fun b => b.length + 64).sum
theorem Uf_succ {bs : List Str} {i : Nat} {b : Str} (h : bs[i]? = some b) : Uf bs (i + 1) = Uf bs i + (b.length + 64) := by
  unfold Uf; rw [List.take_add_one, h]; simp
theorem sum_take_le (l : List Nat) (i : Nat) : (l.take i).sum ≤ l.sum := by
  conv => rhs; rw [← List.take_append_drop i l]
  rw [List.sum_append]; omega
theorem Uf_le (bs : List Str) (i : Nat) : Uf bs i ≤ (bs.map fun b => b.length + 64).sum := by
  unfold Uf; rw [List.map_take]; exact sum_take_le _ _
theorem len_le_sum (bs : List Str) : bs.length * 64 ≤ (bs.map fun b => b.length + 64).sum := by
  induction bs with
  | nil => simp
  | cons b bs ih => simp; omega
section
variable {r : Int} {U K c : Nat} {S S1 : SK} {D D1 : DK} {qs : List RB} {s d : Nat} {data : Str} {G : List Hp} {u : Value} {Bs : List Hp}
theorem roomBI (h : BI r U K c S D qs) (hR : RoomOK S c D S1 D1) : S1.last = S.last ∧ ∃ c1, BI r (U + 8) (K + 1) c1 S1 D1 qs := by
  rcases hR with ⟨rfl, rfl, _⟩ | ⟨rfl, rfl, hf, _⟩
  · exact ⟨rfl, c, h.mono (by omega) (by omega)⟩
  · exact ⟨rfl, c + 1, h.roomS hf⟩
theorem fullBI (h : BI r U K c S D qs) (hF : (∃ S1 D1 A' DA', RoomOK S c D S1 D1 ∧ D1.room < (D1.used : Int) + (wrapped (rec1 (S.last + 1) data)).length ∧ u = .tuple #[.int .i64 0, .int .i64 6] ∧ StoreA s d S1 A' ∧ DiskA d D1 DA' ∧ Bs = A' :: DA' :: G) ∨
    (NoRoom S D ∧ u = .tuple #[.int .i64 0, .int .i64 6] ∧ ∃ A' DA', StoreA s d S A' ∧ DiskA d D DA' ∧ Bs = A' :: DA' :: G)) :
    ∃ S1 D1 c1 A1 DA1, u = .tuple #[.int .i64 0, .int .i64 6] ∧ BI r (U + 8) (K + 1) c1 S1 D1 qs ∧ r < (D1.used : Int) + 20 + data.length ∧ StoreA s d S1 A1 ∧ DiskA d D1 DA1 ∧ Bs = A1 :: DA1 :: G := by
  rcases hF with ⟨S1, D1, A1, DA1, hRO, hf, rfl, hS, hD, rfl⟩ | ⟨hN, rfl, A1, DA1, hS, hD, rfl⟩
  · obtain ⟨_, c1, hB⟩ := roomBI h hRO
    rw [wrapped_length, rec1_len] at hf
    have := hB.room
    exact ⟨S1, D1, c1, A1, DA1, rfl, hB, by omega, hS, hD, rfl⟩
  · have := hN.1
    have := h.room
    exact ⟨S, D, c, A1, DA1, rfl, h.mono (by omega) (by omega), by omega, hS, hD, rfl⟩
end
section
variable {e : Ctx} {w : World} {As : List Hp} {v : Value} {vs : List Value} {bs : List Str} {space : Int}
theorem bodiesFull (hG : Glob e) (hE : Kit.HasErr e) (hr : space ≤ 9223372036854775807 ∧ -9223372036854775808 ≤ space) (hsum : (bs.map fun b => b.length + 64).sum ≤ 700000000) (hv : Sl e.base 1 v bs.length vs) (hbs : BL e.base vs bs) (hw : Owns e w As) :
    Calls Tryz.prog 3 #[.int .i64 space, v] w (Ret e fun u _ => u = .bool true) := by
  have hn64 := len_le_sum bs
  refine enter Tryz.func3 rfl Tryz.ntmps3 hw rfl ?_
  refine Cod.seq ?_
  refine Cod.region ?_
  refine Ops.val (opV_assign rfl) rfl ?_
  refine Ops.nil ?_
  refine Ex.next ?_
  refine Cod.seq ?_
  refine Cod.seq ?_
  refine Cod.region ?_
  refine Ops.call rfl (opC_call Fx.cal_10 rfl (fun w hw => Speak14.speaks hG hE hw)) rfl ?_
  rintro v12 _ ⟨rfl, rfl⟩
  refine Ops.val (opV_not rfl) rfl ?_
  refine Ops.nil ?_
  refine Ex.next ?_
  refine Cod.condF rfl ?_
  refine Cod.skip ?_
  refine Ex.next ?_
  refine Cod.seq ?_
  refine Cod.region ?_
  refine Ops.val (opV_move rfl) rfl ?_
  refine Ops.call rfl (opC_call Fx.cal_11 rfl (fun w hw => opened hw)) rfl ?_
  rintro v16 _ ⟨d, s, A0, DA0, rfl, hA0, hDA0, rfl⟩
  refine Ops.val (opV_move rfl) rfl ?_
  refine Ops.val (opV_extract rfl rfl) rfl ?_
  refine Ops.val (opV_extract rfl rfl) rfl ?_
  refine Ops.val (opV_assign rfl) rfl ?_
  refine Ops.val (opV_assign rfl) rfl ?_
  refine Ops.nil ?_
  refine Ex.next ?_
  refine Cod.seq ?_
  refine Cod.seq ?_
  refine Cod.region ?_
  refine Ops.val (opV_move rfl) rfl ?_
  refine Ops.val (opV_ptrnil Fx.ptr_25 rfl rfl rfl) rfl ?_
  refine Ops.nil ?_
  refine Ex.next ?_
  refine Cod.condF rfl ?_
  refine Cod.skip ?_
  refine Ex.next ?_
  refine Cod.seq ?_
  refine Cod.region ?_
  refine Ops.eff rfl (opE_buildSlice0 Fx.sl_28) rfl ?_
  rintro _ _ ⟨b21, rfl, rfl⟩
  refine Ops.val (opV_assign rfl) rfl ?_
  refine Ops.nil ?_
  refine Ex.next ?_
  refine Cod.seq ?_
  refine Cod.seq ?_
  refine Cod.region ?_
  refine Ops.val (opV_move rfl) rfl ?_
  refine Ops.val (opV_len Fx.sl_22 rfl hv.isSlice) rfl ?_
  refine Ops.val (opV_move rfl) rfl ?_
  refine Ops.nil ?_
  refine Ex.next ?_
  refine Cod.block ?_
  refine Cod.loop (X := Nat × Nat × SK × DK × List RB × Value × Hp × Hp × Hp) (fun (i, c, S, D, qs, kv, RX, A, DA) => [(0, .int .i64 space), (5, .pointer (some ⟨d, 0, none⟩)), (6, .pointer (some ⟨s, 0, none⟩)), (7, kv), (22, v), (23, .int .i64 bs.length), (24, .int .i64 (i : Int))]) (fun (i, c, S, D, qs, kv, RX, A, DA) => A :: DA :: RX :: []) (fun (i, c, S, D, qs, kv, RX, A, DA) => i ≤ bs.length ∧ BI space (Uf bs i) (2 * i) c S D qs ∧ StoreA s d S A ∧ DiskA d D DA ∧ Row 36 4 kv qs.length (flat qs) RX ∧ (∀ x ∈ qs, x.data.length ≤ 1000000000 ∧ Sl e.base 1 x.dv x.data.length (bcells x.data)) ∧ qs.length ≤ i) (fun (i, c, S, D, qs, kv, RX, A, DA) => bs.length - i) ((0, 0, ⟨[], [], 0, 0⟩, ⟨[], [], space⟩, [], _, [(b21, .cells #[] 36)], A0, DA0)) (⟨Nat.zero_le _, BI.start, hA0, hDA0, Row.made (n := 0) rfl (by simp [maxLen]), by simp, Nat.le_refl _⟩) (by repeat (first | exact trivial | refine ⟨rfl, ?_⟩)) (fun _ h => h.subs (by first | ((repeat (first | exact Sub.refl | exact Sub.nil | apply Sub.emp | (apply Sub.cons; focus ((repeat (first | exact Pick.hd | apply Pick.tl)); done)) | (apply Sub.con; focus ((repeat (first | exact Pick.hd | apply Pick.tl)); done)) | (apply Sub.app; focus ((repeat (first | exact Pick.hd | apply Pick.tl)); done)) | apply Sub.drop)); done) | ((repeat (first | rw [List.append_assoc] | rw [List.cons_append] | rw [List.nil_append] | rw [List.append_nil])); (repeat (first | exact Sub.refl | exact Sub.nil | apply Sub.emp | (apply Sub.cons; focus ((repeat (first | exact Pick.hd | apply Pick.tl)); done)) | (apply Sub.con; focus ((repeat (first | exact Pick.hd | apply Pick.tl)); done)) | (apply Sub.app; focus ((repeat (first | exact Pick.hd | apply Pick.tl)); done)) | apply Sub.drop)); done))) ?_
  rintro ⟨i, c, S, D, qs, kv, RX, A, DA⟩ ⟨hi, hBI, hS, hD, hR, hq, hql⟩
  try dsimp only
  refine Cod.seq ?_
  refine Cod.region ?_
  refine Ops.val (opV_lss rfl rfl (by first | exact decide_eq_true (by omega) | exact decide_eq_false (by omega) | rfl)) rfl ?_
  refine Ops.nil ?_
  refine Ex.next ?_
  refine Cod.seq ?_
  refine Cod.cond rfl (fun hc => ?_) (fun hc => ?_)
  · try simp at hc
    obtain ⟨b, hb⟩ : ∃ b, bs[i]? = some b := ⟨_, List.getElem?_eq_getElem (by omega)⟩
    obtain ⟨vb, hvb1, hvb⟩ := hbs.get hb
    obtain ⟨ab, cb, rfl⟩ := hvb.isSlice
    have hUs := Uf_succ hb
    have hUl := Uf_le bs (i + 1)
    have hbl : b.length ≤ 700000000 := by omega
    have hdok := hBI.dok hr (by omega) (by omega)
    have hsok := hBI.sok (by omega) (by omega)
    have hl0 := hBI.l0
    have hlK := hBI.lK
    have husU := hBI.us
    refine Cod.skip ?_
    refine Ex.next ?_
    refine Cod.seq ?_
    refine Cod.block ?_
    refine Cod.seq ?_
    refine Cod.region ?_
    refine Ops.val (opV_move rfl) rfl ?_
    refine Ops.val (opV_indexAddr Fx.sl_22 rfl hv (k := i) rfl (by omega)) rfl ?_
    refine Ops.val (opV_loadE Fx.scal_29 rfl hv .base (by rw [Nat.mul_one]; exact hvb1)) rfl ?_
    refine Ops.val (opV_assign rfl) rfl ?_
    refine Ops.val (opV_assign rfl) rfl ?_
    refine Ops.nil ?_
    refine Ex.next ?_
    refine Cod.seq ?_
    refine Cod.region ?_
    refine Ops.val (opV_move rfl) rfl ?_
    refine Ops.val (opV_move rfl) rfl ?_
    refine Ops.call rfl (opC_call Fx.cal_13 rfl (fun w hw => Law14.clone rfl (by omega) hw .base hvb)) rfl ?_
    rintro v32 _ ⟨AC, hAC, rfl⟩
    refine Ops.val (opV_move rfl) rfl ?_
    refine Ops.val (opV_rem rfl rfl (by decide)) rfl ?_
    refine Ops.val (opV_lss rfl rfl rfl) rfl ?_
    by_cases hlong : 262144 < b.length
    · skip
      refine Ops.call rfl (opC_call Fx.cal_12 rfl (fun w hw => put_long rfl hlong hw hAC.sl)) rfl ?_
      rintro v36 _ ⟨rfl, rfl⟩
      refine Ops.val (opV_move rfl) rfl ?_
      refine Ops.val (opV_extract rfl rfl) rfl ?_
      refine Ops.val (opV_extract rfl rfl) rfl ?_
      refine Ops.val (opV_assign rfl) rfl ?_
      refine Ops.val (opV_assign rfl) rfl ?_
      refine Ops.nil ?_
      refine Ex.next ?_
      refine Cod.seq ?_
      refine Cod.seq ?_
      refine Cod.region ?_
      refine Ops.val (opV_move rfl) rfl ?_
      refine Ops.val (opV_len Fx.sl_29 rfl hvb.isSlice) rfl ?_
      refine Ops.val (opV_gtr rfl rfl (by first | exact decide_eq_true (by omega) | exact decide_eq_false (by omega) | rfl)) rfl ?_
      refine Ops.nil ?_
      refine Ex.next ?_
      refine Cod.condT rfl ?_
      refine Cod.seq ?_
      refine Cod.region ?_
      refine Ops.val (opV_move rfl) rfl ?_
      refine Ops.val (opV_eql rfl rfl (by first | exact decide_eq_true (by omega) | exact decide_eq_false (by omega) | rfl)) rfl ?_
      refine Ops.val (opV_assign rfl) rfl ?_
      refine Ops.nil ?_
      refine Ex.next ?_
      refine Cod.ret ?_
      refine Ex.thenRet ?_
      refine Ex.blockRet ?_
      refine Ex.thenRet ?_
      refine Ex.thenRet ?_
      refine Ex.blockRet ?_
      refine Ex.thenRet ?_
      exact Ex.ret1 rfl rfl (fun _ h => h.subs (by first | ((repeat (first | exact Sub.refl | exact Sub.nil | apply Sub.emp | (apply Sub.cons; focus ((repeat (first | exact Pick.hd | apply Pick.tl)); done)) | (apply Sub.con; focus ((repeat (first | exact Pick.hd | apply Pick.tl)); done)) | (apply Sub.app; focus ((repeat (first | exact Pick.hd | apply Pick.tl)); done)) | apply Sub.drop)); done) | ((repeat (first | rw [List.append_assoc] | rw [List.cons_append] | rw [List.nil_append] | rw [List.append_nil])); (repeat (first | exact Sub.refl | exact Sub.nil | apply Sub.emp | (apply Sub.cons; focus ((repeat (first | exact Pick.hd | apply Pick.tl)); done)) | (apply Sub.con; focus ((repeat (first | exact Pick.hd | apply Pick.tl)); done)) | (apply Sub.app; focus ((repeat (first | exact Pick.hd | apply Pick.tl)); done)) | apply Sub.drop)); done))) rfl
    · skip
      have hqn : ∀ du : Bool, ∀ x ∈ qs ++ [(⟨.slice ab b.length cb, S.last + 1, 1, b, du⟩ : RB)], x.data.length ≤ 1000000000 ∧ Sl e.base 1 x.dv x.data.length (bcells x.data) := fun du x hx => by
          rcases List.mem_append.1 hx with hx | hx
          · exact hq x hx
          · simp at hx; subst hx; exact ⟨by dsimp only; omega, hvb⟩
      replace hqn := hqn (decide ((i : Int).tmod 3 < 2))
      by_cases hdur : (i : Int).tmod 3 < 2
      · skip
        rw [decide_eq_true hdur]
        refine Ops.call rfl (opC_call Fx.cal_12 rfl (fun w hw => put_hard (c := c) rfl (by omega) hG hE hdok (by omega) hsok hw (A := A) (by repeat (first | exact Pick.hd | apply Pick.tl)) (DA := DA) (by repeat (first | exact Pick.hd | apply Pick.tl)) (.mem (by repeat (first | exact List.Mem.head _ | apply List.Mem.tail))) hS hD hAC.sl)) rfl ?_
        rintro v36 _ hP
        rcases hP with ⟨S1, D1, g, A1, DA1, hRO, hg, hf, rfl, hSn, hDn, rfl⟩ | hF
        · skip
          obtain ⟨hlast, c1, hB1⟩ := roomBI hBI hRO
          have hBn := hB1.putS hg (dv := .slice ab b.length cb) (du := decide ((i : Int).tmod 3 < 2)) (data := b) (L := 20 + b.length) (by rw [wrapped_length, rec1_len]; omega) (by rw [hlast] at *; rw [wrapped_length, rec1_len] at hf; push_cast; omega)
          rw [hlast] at hBn
          refine Ops.val (opV_move rfl) rfl ?_
          refine Ops.val (opV_extract rfl rfl) rfl ?_
          refine Ops.val (opV_extract rfl rfl) rfl ?_
          refine Ops.val (opV_assign rfl) rfl ?_
          refine Ops.val (opV_assign rfl) rfl ?_
          refine Ops.nil ?_
          refine Ex.next ?_
          refine Cod.seq ?_
          refine Cod.seq ?_
          refine Cod.region ?_
          refine Ops.val (opV_move rfl) rfl ?_
          refine Ops.val (opV_len Fx.sl_29 rfl hvb.isSlice) rfl ?_
          refine Ops.val (opV_gtr rfl rfl (by first | exact decide_eq_true (by omega) | exact decide_eq_false (by omega) | rfl)) rfl ?_
          refine Ops.nil ?_
          refine Ex.next ?_
          refine Cod.condF rfl ?_
          refine Cod.skip ?_
          refine Ex.next ?_
          refine Cod.seq ?_
          refine Cod.seq ?_
          refine Cod.region ?_
          refine Ops.val (opV_move rfl) rfl ?_
          refine Ops.val (opV_neq rfl rfl (by first | exact decide_eq_true (by omega) | exact decide_eq_false (by omega) | rfl)) rfl ?_
          refine Ops.nil ?_
          refine Ex.next ?_
          refine Cod.condF rfl ?_
          refine Cod.skip ?_
          refine Ex.next ?_
          refine Cod.seq ?_
          refine Cod.region ?_
          refine Ops.val (opV_move rfl) rfl ?_
          refine Ops.val (opV_move rfl) rfl ?_
          refine Ops.val (opV_move rfl) rfl ?_
          refine Ops.val (opV_move rfl) rfl ?_
          refine Ops.val (opV_rem rfl rfl (by decide)) rfl ?_
          refine Ops.val (opV_lss rfl rfl rfl) rfl ?_
          refine Ops.val (opV_build Fx.st_36 rfl (by first | (simp [fillL, vcells, putAt]; rfl) | (simp [fillL, vcells, putAt]; done) | rfl)) rfl ?_
          refine Ops.eff rfl (opE_buildSlice Fx.sl_28 rfl rfl (by first | (simp [fillL, rowCells, vcells, putAt]; rfl) | (simp [fillL, rowCells, vcells, putAt]; done) | rfl)) rfl ?_
          rintro _ _ ⟨b74, rfl, rfl⟩
          refine Ops.eff rfl (opE_append Fx.sl_28 rfl Fx.ni_28 rfl rfl (by repeat (first | exact Pick.hd | apply Pick.tl)) hR (one_src (.mem (by repeat (first | exact List.Mem.head _ | apply List.Mem.tail))) rfl (by simp [Value.oneCell'])) (by omega) (by simp [maxLen]; omega)) rfl ?_
          rintro v75 _ ⟨A75, hA75, rfl⟩
          refine Ops.val (opV_assign rfl) rfl ?_
          refine Ops.nil ?_
          refine Ex.next ?_
          refine Cod.seq ?_
          refine Cod.region ?_
          refine Ops.val (opV_move rfl) rfl ?_
          refine Ops.call rfl (opC_call Fx.cal_14 rfl (fun w hw => used_spec hw (.mem (by repeat (first | exact List.Mem.head _ | apply List.Mem.tail))) hDn)) rfl ?_
          rintro v77 _ ⟨rfl, rfl⟩
          refine Ops.val (opV_move rfl) rfl ?_
          refine Ops.val (opV_max rfl rfl) rfl ?_
          refine Ops.val (opV_gtr rfl rfl (decide_eq_false (by have := hBn.full; have := hBn.us; have := hBn.room; omega))) rfl ?_
          refine Ops.nil ?_
          refine Ex.next ?_
          refine Cod.condF rfl ?_
          refine Cod.skip ?_
          refine Ex.blockNormal ?_
          refine Ex.next ?_
          refine Cod.region ?_
          refine Ops.val (opV_add64 rfl rfl (by omega)) rfl ?_
          refine Ops.val (opV_move rfl) rfl ?_
          refine Ops.nil ?_
          refine Ex.toN (fun _ _ hs => ⟨(i + 1, c1, S1.put b g, D1.append (fileF g.base g.gen) (wrapped (rec1 (S.last + 1) b)), qs ++ [⟨.slice ab b.length cb, S.last + 1, 1, b, decide ((i : Int).tmod 3 < 2)⟩], v75, A75, A1, DA1), ⟨by dsimp only; omega, hBn.mono (by dsimp only; rw [hUs]; omega) (by dsimp only; omega), hSn, hDn, by simpa [flat_append, flat, q4] using hA75, hqn, by simp; omega⟩, (by first | omega | (dsimp only; omega) | (simp; omega) | (simp; done)), hs⟩) (by repeat (first | exact trivial | refine ⟨rfl, ?_⟩)) (fun _ h => h.subs (by first | ((repeat (first | exact Sub.refl | exact Sub.nil | apply Sub.emp | (apply Sub.cons; focus ((repeat (first | exact Pick.hd | apply Pick.tl)); done)) | (apply Sub.con; focus ((repeat (first | exact Pick.hd | apply Pick.tl)); done)) | (apply Sub.app; focus ((repeat (first | exact Pick.hd | apply Pick.tl)); done)) | apply Sub.drop)); done) | ((repeat (first | rw [List.append_assoc] | rw [List.cons_append] | rw [List.nil_append] | rw [List.append_nil])); (repeat (first | exact Sub.refl | exact Sub.nil | apply Sub.emp | (apply Sub.cons; focus ((repeat (first | exact Pick.hd | apply Pick.tl)); done)) | (apply Sub.con; focus ((repeat (first | exact Pick.hd | apply Pick.tl)); done)) | (apply Sub.app; focus ((repeat (first | exact Pick.hd | apply Pick.tl)); done)) | apply Sub.drop)); done)))
        · skip
          obtain ⟨S1, D1, c1, A1, DA1, rfl, hB1, hsp, hS1, hD1, rfl⟩ := fullBI hBI hF
          have hus1 := hB1.us
          have hro1 := hB1.room
          have hfu1 := hB1.full
          refine Ops.val (opV_move rfl) rfl ?_
          refine Ops.val (opV_extract rfl rfl) rfl ?_
          refine Ops.val (opV_extract rfl rfl) rfl ?_
          refine Ops.val (opV_assign rfl) rfl ?_
          refine Ops.val (opV_assign rfl) rfl ?_
          refine Ops.nil ?_
          refine Ex.next ?_
          refine Cod.seq ?_
          refine Cod.seq ?_
          refine Cod.region ?_
          refine Ops.val (opV_move rfl) rfl ?_
          refine Ops.val (opV_len Fx.sl_29 rfl hvb.isSlice) rfl ?_
          refine Ops.val (opV_gtr rfl rfl (by first | exact decide_eq_true (by omega) | exact decide_eq_false (by omega) | rfl)) rfl ?_
          refine Ops.nil ?_
          refine Ex.next ?_
          refine Cod.condF rfl ?_
          refine Cod.skip ?_
          refine Ex.next ?_
          refine Cod.seq ?_
          refine Cod.seq ?_
          refine Cod.region ?_
          refine Ops.val (opV_move rfl) rfl ?_
          refine Ops.val (opV_neq rfl rfl (by first | exact decide_eq_true (by omega) | exact decide_eq_false (by omega) | rfl)) rfl ?_
          refine Ops.nil ?_
          refine Ex.next ?_
          refine Cod.condT rfl ?_
          refine Cod.seq ?_
          refine Cod.seq ?_
          refine Cod.region ?_
          refine Ops.val (opV_move rfl) rfl ?_
          refine Ops.val (opV_neq rfl rfl (by first | exact decide_eq_true (by omega) | exact decide_eq_false (by omega) | rfl)) rfl ?_
          refine Ops.val (opV_move rfl) rfl ?_
          refine Ops.valg rfl (opV_move rfl) rfl ?_
          refine Ops.valg rfl (opV_neq rfl rfl (by first | exact decide_eq_true (by omega) | exact decide_eq_false (by omega) | rfl)) rfl ?_
          refine Ops.val (opV_pickF rfl rfl) rfl ?_
          refine Ops.val (opV_move rfl) rfl ?_
          refine Ops.valg rfl (opV_move rfl) rfl ?_
          refine Ops.valg rfl (opV_rem rfl rfl (by decide)) rfl ?_
          refine Ops.valg rfl (opV_eql rfl rfl (decide_eq_false (by omega))) rfl ?_
          refine Ops.val (opV_pickF rfl rfl) rfl ?_
          refine Ops.val (opV_move rfl) rfl ?_
          refine Ops.valg rfl (opV_move rfl) rfl ?_
          refine Ops.valg rfl (opV_move rfl) rfl ?_
          refine Ops.call rfl (opC_call Fx.cal_14 rfl (fun w hw => used_spec hw (.mem (by repeat (first | exact List.Mem.head _ | apply List.Mem.tail))) hD1)) rfl ?_
          rintro v60 _ ⟨rfl, rfl⟩
          refine Ops.valg rfl (opV_sub64 rfl rfl (by omega)) rfl ?_
          refine Ops.valg rfl (opV_move rfl) rfl ?_
          refine Ops.valg rfl (opV_len Fx.sl_29 rfl hvb.isSlice) rfl ?_
          refine Ops.valg rfl (opV_add64 rfl rfl (by omega)) rfl ?_
          refine Ops.valg rfl (opV_gtr rfl rfl (decide_eq_false (by omega))) rfl ?_
          refine Ops.val (opV_pickF rfl rfl) rfl ?_
          refine Ops.nil ?_
          refine Ex.next ?_
          refine Cod.condF rfl ?_
          refine Cod.skip ?_
          refine Ex.next ?_
          refine Cod.exit ?_
          refine Ex.thenExit ?_
          refine Ex.blockHit ?_
          refine Ex.next ?_
          refine Cod.region ?_
          refine Ops.val (opV_add64 rfl rfl (by omega)) rfl ?_
          refine Ops.val (opV_move rfl) rfl ?_
          refine Ops.nil ?_
          refine Ex.toN (fun _ _ hs => ⟨(i + 1, c1, S1, D1, qs, kv, RX, A1, DA1), ⟨by dsimp only; omega, hB1.mono (by dsimp only; rw [hUs]; omega) (by dsimp only; omega), hS1, hD1, hR, hq, by dsimp only; omega⟩, (by first | omega | (dsimp only; omega) | (simp; omega) | (simp; done)), hs⟩) (by repeat (first | exact trivial | refine ⟨rfl, ?_⟩)) (fun _ h => h.subs (by first | ((repeat (first | exact Sub.refl | exact Sub.nil | apply Sub.emp | (apply Sub.cons; focus ((repeat (first | exact Pick.hd | apply Pick.tl)); done)) | (apply Sub.con; focus ((repeat (first | exact Pick.hd | apply Pick.tl)); done)) | (apply Sub.app; focus ((repeat (first | exact Pick.hd | apply Pick.tl)); done)) | apply Sub.drop)); done) | ((repeat (first | rw [List.append_assoc] | rw [List.cons_append] | rw [List.nil_append] | rw [List.append_nil])); (repeat (first | exact Sub.refl | exact Sub.nil | apply Sub.emp | (apply Sub.cons; focus ((repeat (first | exact Pick.hd | apply Pick.tl)); done)) | (apply Sub.con; focus ((repeat (first | exact Pick.hd | apply Pick.tl)); done)) | (apply Sub.app; focus ((repeat (first | exact Pick.hd | apply Pick.tl)); done)) | apply Sub.drop)); done)))
      · skip
        rw [decide_eq_false hdur]
        refine Ops.call rfl (opC_call Fx.cal_12 rfl (fun w hw => put_soft rfl (by omega) ⟨hl0, by omega⟩ hBI.fresh hw (A := A) (by repeat (first | exact Pick.hd | apply Pick.tl)) (.mem (by repeat (first | exact List.Mem.head _ | apply List.Mem.tail))) hS hAC.sl)) rfl ?_
        rintro v36 _ ⟨rfl, A1, hSn, rfl⟩
        have hDn := hD
        have hBn := hBI.bodyS (x := ⟨.slice ab b.length cb, S.last + 1, 1, b, decide ((i : Int).tmod 3 < 2)⟩) rfl rfl (seg := 0) (S' := { S with bodies := ins (S.last + 1) (b, 1, 0) S.bodies, last := S.last + 1 }) rfl rfl rfl (fun n h => h) (fun n g h => by obtain ⟨a, b, d, f⟩ := hBI.sg n g h; exact ⟨a, b, d, by omega⟩)
        refine Ops.val (opV_move rfl) rfl ?_
        refine Ops.val (opV_extract rfl rfl) rfl ?_
        refine Ops.val (opV_extract rfl rfl) rfl ?_
        refine Ops.val (opV_assign rfl) rfl ?_
        refine Ops.val (opV_assign rfl) rfl ?_
        refine Ops.nil ?_
        refine Ex.next ?_
        refine Cod.seq ?_
        refine Cod.seq ?_
        refine Cod.region ?_
        refine Ops.val (opV_move rfl) rfl ?_
        refine Ops.val (opV_len Fx.sl_29 rfl hvb.isSlice) rfl ?_
        refine Ops.val (opV_gtr rfl rfl (by first | exact decide_eq_true (by omega) | exact decide_eq_false (by omega) | rfl)) rfl ?_
        refine Ops.nil ?_
        refine Ex.next ?_
        refine Cod.condF rfl ?_
        refine Cod.skip ?_
        refine Ex.next ?_
        refine Cod.seq ?_
        refine Cod.seq ?_
        refine Cod.region ?_
        refine Ops.val (opV_move rfl) rfl ?_
        refine Ops.val (opV_neq rfl rfl (by first | exact decide_eq_true (by omega) | exact decide_eq_false (by omega) | rfl)) rfl ?_
        refine Ops.nil ?_
        refine Ex.next ?_
        refine Cod.condF rfl ?_
        refine Cod.skip ?_
        refine Ex.next ?_
        refine Cod.seq ?_
        refine Cod.region ?_
        refine Ops.val (opV_move rfl) rfl ?_
        refine Ops.val (opV_move rfl) rfl ?_
        refine Ops.val (opV_move rfl) rfl ?_
        refine Ops.val (opV_move rfl) rfl ?_
        refine Ops.val (opV_rem rfl rfl (by decide)) rfl ?_
        refine Ops.val (opV_lss rfl rfl rfl) rfl ?_
        refine Ops.val (opV_build Fx.st_36 rfl (by first | (simp [fillL, vcells, putAt]; rfl) | (simp [fillL, vcells, putAt]; done) | rfl)) rfl ?_
        refine Ops.eff rfl (opE_buildSlice Fx.sl_28 rfl rfl (by first | (simp [fillL, rowCells, vcells, putAt]; rfl) | (simp [fillL, rowCells, vcells, putAt]; done) | rfl)) rfl ?_
        rintro _ _ ⟨b74, rfl, rfl⟩
        refine Ops.eff rfl (opE_append Fx.sl_28 rfl Fx.ni_28 rfl rfl (by repeat (first | exact Pick.hd | apply Pick.tl)) hR (one_src (.mem (by repeat (first | exact List.Mem.head _ | apply List.Mem.tail))) rfl (by simp [Value.oneCell'])) (by omega) (by simp [maxLen]; omega)) rfl ?_
        rintro v75 _ ⟨A75, hA75, rfl⟩
        refine Ops.val (opV_assign rfl) rfl ?_
        refine Ops.nil ?_
        refine Ex.next ?_
        refine Cod.seq ?_
        refine Cod.region ?_
        refine Ops.val (opV_move rfl) rfl ?_
        refine Ops.call rfl (opC_call Fx.cal_14 rfl (fun w hw => used_spec hw (.mem (by repeat (first | exact List.Mem.head _ | apply List.Mem.tail))) hDn)) rfl ?_
        rintro v77 _ ⟨rfl, rfl⟩
        refine Ops.val (opV_move rfl) rfl ?_
        refine Ops.val (opV_max rfl rfl) rfl ?_
        refine Ops.val (opV_gtr rfl rfl (decide_eq_false (by have := hBn.full; have := hBn.us; have := hBn.room; omega))) rfl ?_
        refine Ops.nil ?_
        refine Ex.next ?_
        refine Cod.condF rfl ?_
        refine Cod.skip ?_
        refine Ex.blockNormal ?_
        refine Ex.next ?_
        refine Cod.region ?_
        refine Ops.val (opV_add64 rfl rfl (by omega)) rfl ?_
        refine Ops.val (opV_move rfl) rfl ?_
        refine Ops.nil ?_
        refine Ex.toN (fun _ _ hs => ⟨(i + 1, c, { S with bodies := ins (S.last + 1) (b, 1, 0) S.bodies, last := S.last + 1 }, D, qs ++ [⟨.slice ab b.length cb, S.last + 1, 1, b, decide ((i : Int).tmod 3 < 2)⟩], v75, A75, A1, DA), ⟨by dsimp only; omega, hBn.mono (by dsimp only; rw [hUs]; omega) (by dsimp only; omega), hSn, hDn, by simpa [flat_append, flat, q4] using hA75, hqn, by simp; omega⟩, (by first | omega | (dsimp only; omega) | (simp; omega) | (simp; done)), hs⟩) (by repeat (first | exact trivial | refine ⟨rfl, ?_⟩)) (fun _ h => h.subs (by first | ((repeat (first | exact Sub.refl | exact Sub.nil | apply Sub.emp | (apply Sub.cons; focus ((repeat (first | exact Pick.hd | apply Pick.tl)); done)) | (apply Sub.con; focus ((repeat (first | exact Pick.hd | apply Pick.tl)); done)) | (apply Sub.app; focus ((repeat (first | exact Pick.hd | apply Pick.tl)); done)) | apply Sub.drop)); done) | ((repeat (first | rw [List.append_assoc] | rw [List.cons_append] | rw [List.nil_append] | rw [List.append_nil])); (repeat (first | exact Sub.refl | exact Sub.nil | apply Sub.emp | (apply Sub.cons; focus ((repeat (first | exact Pick.hd | apply Pick.tl)); done)) | (apply Sub.con; focus ((repeat (first | exact Pick.hd | apply Pick.tl)); done)) | (apply Sub.app; focus ((repeat (first | exact Pick.hd | apply Pick.tl)); done)) | apply Sub.drop)); done)))
  · try simp at hc
    obtain rfl : i = bs.length := by omega
    refine Cod.exit ?_
    refine Ex.thenExit ?_
    refine Ex.thenExit ?_
    refine Ex.blockHit ?_
    refine Ex.next ?_
    refine Cod.seq ?_
    refine Cod.region ?_
    refine Ops.val (opV_move rfl) rfl ?_
    refine Ops.val (opV_move rfl) rfl ?_
    refine Ops.call rfl (opC_call Fx.cal_15 rfl (fun w hw => tells_spec rfl (by omega) (by have := congrArg List.length hBI.ids; simp at this; omega) (fun x hx => by have h1 := hBI.rng x hx; have h2 := hBI.lK; have h3 := hBI.us; omega) (by rw [hBI.ids]; exact List.mergeSort_of_pairwise (by simpa using hBI.asc.imp (fun h => Int.le_of_lt h))) (fun x hx => ⟨hBI.get x hx, hq x hx⟩) hBI.zero hw (.mem (List.Mem.head _)) hS (RX := RX) (.mem (by repeat (first | exact List.Mem.head _ | apply List.Mem.tail))) hR.sl)) rfl ?_
    rintro v84 _ ⟨rfl, rfl⟩
    refine Ops.val (opV_assign rfl) rfl ?_
    refine Ops.nil ?_
    refine Ex.next ?_
    refine Cod.ret ?_
    exact Ex.ret1 rfl rfl (fun _ h => h.subs (by first | ((repeat (first | exact Sub.refl | exact Sub.nil | apply Sub.emp | (apply Sub.cons; focus ((repeat (first | exact Pick.hd | apply Pick.tl)); done)) | (apply Sub.con; focus ((repeat (first | exact Pick.hd | apply Pick.tl)); done)) | (apply Sub.app; focus ((repeat (first | exact Pick.hd | apply Pick.tl)); done)) | apply Sub.drop)); done) | ((repeat (first | rw [List.append_assoc] | rw [List.cons_append] | rw [List.nil_append] | rw [List.append_nil])); (repeat (first | exact Sub.refl | exact Sub.nil | apply Sub.emp | (apply Sub.cons; focus ((repeat (first | exact Pick.hd | apply Pick.tl)); done)) | (apply Sub.con; focus ((repeat (first | exact Pick.hd | apply Pick.tl)); done)) | (apply Sub.app; focus ((repeat (first | exact Pick.hd | apply Pick.tl)); done)) | apply Sub.drop)); done))) rfl
end
end Go.Proofs.YteejmoldhbfdnaaGreatDoor.Full14
