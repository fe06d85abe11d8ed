/- Package bodies: Collect. -/
import Derived.Test.YteejmoldhbfdnaaGreatDoorColl
import Derived.Test.YteejmoldhbfdnaaGreatDoorForget
set_option maxRecDepth 8000
namespace Go.Proofs.YteejmoldhbfdnaaGreatDoor.Bod
open Go.W
def SK.live (S : SK) (g : SegK) : List Int := g.ids.filter fun id => !(lkp id S.bodies).isNone
def SK.data (S : SK) (id : Int) : Str := match lkp id S.bodies with | some b => b.1 | none => []
/-- One segment gives room back. -/
def coll1 (S : SK) (D : Disk.DK) (n : Int) : SK × Disk.DK :=
  match lkp n S.segs with
  | none => (S, D)
  | some g =>
    if g.stale = false then (S, D) else
    if S.live g = [] ∧ n ≠ S.current then ({ S with segs := del n S.segs }, D.drop (Wal.fileF g.base g.gen))
    else ({ S with segs := ins n { g with gen := g.gen + 1, size := (Seal.wrapped (recF S.data (S.live g))).length, ids := S.live g, stale := false } S.segs }, Wal2.renewD D g.base g.gen (recF S.data (S.live g)))
/-- What that asks. -/
structure StepOK (S : SK) (D : Disk.DK) (g : SegK) : Prop where
  base : Num.okBase g.base
  gen : g.gen ≤ 999999990
  file : (lkp (Wal.fileF g.base g.gen) D.files).isSome = true
  us : D.used ≤ 800000000
  pn : D.pend.length < 100000000
  po : Disk.PendOK D
  rm : D.room ≤ 9223372036854775807
  rl : (recF S.data (S.live g)).length ≤ 1048576
  fit : (D.used : Int) + (Seal.wrapped (recF S.data (S.live g))).length ≤ D.room
  ids : g.ids.length ≤ 100000000
end Go.Proofs.YteejmoldhbfdnaaGreatDoor.Bod
namespace Go.Proofs.YteejmoldhbfdnaaGreatDoor.Coll2
open Go.W Go.RowKit Lib1 Oct OctR Seal Disk Disk2 Wal Num Wal2 Wal3 Bod Bod2 Bod3 Bod4 Law14 Coll Forget
namespace Fx
theorem cal_64 : callable Tryz.prog 64 = true := by kernel_rfl
theorem cal_83 : callable Tryz.prog 83 = true := by kernel_rfl
theorem cal_86 : callable Tryz.prog 86 = true := by kernel_rfl
theorem cal_87 : callable Tryz.prog 87 = true := by kernel_rfl
theorem cal_88 : callable Tryz.prog 88 = true := by kernel_rfl
theorem cal_89 : callable Tryz.prog 89 = true := by kernel_rfl
theorem cal_91 : callable Tryz.prog 91 = true := by kernel_rfl
theorem fld_129_1 : fieldOff Tryz.prog 129 1 = some 1 := by kernel_rfl
theorem fld_129_2 : fieldOff Tryz.prog 129 2 = some 2 := by kernel_rfl
theorem fld_129_4 : fieldOff Tryz.prog 129 4 = some 4 := by kernel_rfl
theorem fld_138_0 : fieldOff Tryz.prog 138 0 = some 0 := by kernel_rfl
theorem fld_138_1 : fieldOff Tryz.prog 138 1 = some 1 := by kernel_rfl
theorem fld_138_2 : fieldOff Tryz.prog 138 2 = some 2 := by kernel_rfl
theorem map_127 : mapInfo Tryz.prog 127 = some (.int .i64, (.pointer none)) := by kernel_rfl
theorem scal_126 : scalarB Tryz.prog 126 = true := by kernel_rfl
theorem scal_127 : scalarB Tryz.prog 127 = true := by kernel_rfl
theorem scal_136 : scalarB Tryz.prog 136 = true := by kernel_rfl
theorem scal_25 : scalarB Tryz.prog 25 = true := by kernel_rfl
theorem scal_3 : scalarB Tryz.prog 3 = true := by kernel_rfl
theorem scal_4 : scalarB Tryz.prog 4 = true := by kernel_rfl
theorem scal_77 : scalarB Tryz.prog 77 = true := by kernel_rfl
theorem sl_77 : slInfo Tryz.prog 77 = some (3, 1, 8, some (.int .i64 0)) := by kernel_rfl
theorem sz1_4 : (Tryz.prog.info? 4).map (·.size) = some 1 := by kernel_rfl
theorem sz1_77 : (Tryz.prog.info? 77).map (·.size) = some 1 := by kernel_rfl

end Fx
section
variable {e : Ctx} {w : World} {As F G : List Hp} {A B DA : Hp} {s d c p q : Nat} {S : SK} {D : DK} {v u : Value}
theorem segKeys {sm : Nat} (hw : Owns e w As) :
    Calls Tryz.prog 87 #[.map (some sm)] w (Ret e fun u Bs => ∃ q, u = .func (.func 161) #[] #[.pointer (some ⟨q, 0, none⟩)] ∧ Bs = [(q, .cells #[.map (some sm)] 127)] :: As) := by
  refine enter Tryz.func87 rfl Tryz.ntmps87 hw rfl ?_
  refine Cod.seq ?_
  refine Cod.region ?_
  refine Ops.eff rfl (opE_box rfl) rfl ?_
  rintro _ _ ⟨b1, rfl, rfl⟩
  refine Ops.val (opV_assign rfl) rfl ?_
  refine Ops.nil ?_
  refine Ex.next ?_
  refine Cod.seq ?_
  refine Cod.region ?_
  refine Ops.val (opV_makeFunc rfl rfl) rfl ?_
  refine Ops.val (opV_assign rfl) rfl ?_
  refine Ops.nil ?_
  refine Ex.next ?_
  refine Cod.ret ?_
  exact Ex.ret1 rfl rfl (fun _ h => h.subs (by first | ((repeat (first | exact Sub.refl | exact Sub.nil | apply Sub.emp | (apply Sub.cons; focus ((repeat (first | exact Pick.hd | apply Pick.tl)); done)) | (apply Sub.con; focus ((repeat (first | exact Pick.hd | apply Pick.tl)); done)) | (apply Sub.app; focus ((repeat (first | exact Pick.hd | apply Pick.tl)); done)) | apply Sub.drop)); done) | ((repeat (first | rw [List.append_assoc] | rw [List.cons_append] | rw [List.nil_append] | rw [List.append_nil])); (repeat (first | exact Sub.refl | exact Sub.nil | apply Sub.emp | (apply Sub.cons; focus ((repeat (first | exact Pick.hd | apply Pick.tl)); done)) | (apply Sub.con; focus ((repeat (first | exact Pick.hd | apply Pick.tl)); done)) | (apply Sub.app; focus ((repeat (first | exact Pick.hd | apply Pick.tl)); done)) | apply Sub.drop)); done))) ⟨b1, rfl, rfl⟩
theorem segSorted (hn : S.segs.length ≤ 1000000000) (hk : ∀ x ∈ S.segs.map Prod.fst, -9223372036854775808 ≤ x ∧ x ≤ 9223372036854775807) {sm : Nat} {os : Obj} {ks : List (Int × Value)} {GA SX : Hp} (hMs : MapO (κ := Int) ks os) (hSe : SegM d ks S.segs GA) (hw : Owns e w As) (hA : Has e As SX) (hm : (sm, os) ∈ SX) (hq : Has e As [(q, .cells #[.map (some sm)] 127)]) :
    Calls Tryz.prog 86 #[.func (.func 161) #[] #[.pointer (some ⟨q, 0, none⟩)]] w
      (Ret e fun u Bs => ∃ is A', Row 3 1 u is.length (zcells is) A' ∧ is = (S.segs.map Prod.fst).mergeSort (fun x y => decide (x ≤ y)) ∧ Bs = A' :: As) := by
  have hkeys := MapH.keys hSe
  have hlen : ks.length = S.segs.length := by have := congrArg List.length hkeys; simpa using this
  refine Calls.imp (Keys.sorted87 (kvs := ks) hw hq (List.Mem.head _) hA hm hMs (by omega) (fun x hx => hk x.1 (by rw [← hkeys]; exact List.mem_map.2 ⟨x, hx, rfl⟩))) ?_
  rintro u Bs ⟨ns, A', h1, h2, rfl⟩ w h
  exact ⟨_, ⟨ns, A', h1, by rw [h2, hkeys], rfl⟩, h⟩
theorem collect_spec {I : Nat → SK → DK → Prop} (hG : Glob e) (hn : S.segs.length ≤ 1000000000) (hk : ∀ x ∈ S.segs.map Prod.fst, -9223372036854775808 ≤ x ∧ x ≤ 9223372036854775807) (hI0 : I 0 S D)
    (hstep : ∀ i n S1 D1, ((S.segs.map Prod.fst).mergeSort (fun x y => decide (x ≤ y)))[i]? = some n → I i S1 D1 → (∃ g, lkp n S1.segs = some g ∧ (g.stale = true → StepOK S1 D1 g)) ∧ I (i + 1) (coll1 S1 D1 n).1 (coll1 S1 D1 n).2)
    (hw : Owns e w As) (hp : Pick As A F) (hq : Pick F DA G) (hS : StoreA s d S A) (hD : DiskA d D DA) :
    Calls Tryz.prog 39 #[.pointer (some ⟨s, 0, none⟩)] w (Ret e fun u Bs => u = .int .i64 0 ∧ ∃ S' D' A' DA', I S.segs.length S' D' ∧ StoreA s d S' A' ∧ DiskA d D' DA' ∧ Bs = A' :: DA' :: G) := by
  have hS0 := hS
  obtain ⟨mb0, ob0, kb0, sm0, os0, ks0, BA0, GA0, hM0, hBo0, hMs0, hSe0, rfl⟩ := hS
  refine enter Tryz.func39 rfl Tryz.ntmps39 (hw.pick2 hp hq) rfl ?_
  refine Cod.seq ?_
  refine Cod.region ?_
  refine Ops.eff rfl (opE_box rfl) rfl ?_
  rintro _ _ ⟨b1, rfl, rfl⟩
  refine Ops.val (opV_assign rfl) rfl ?_
  refine Ops.nil ?_
  refine Ex.next ?_
  refine Cod.seq ?_
  refine Cod.seq ?_
  refine Cod.region ?_
  refine Ops.val (opV_load Fx.scal_25 rfl ((by repeat (first | exact Cell.one rfl | assumption | apply Cell.tl)))) rfl ?_
  refine Ops.val (opV_nil rfl) rfl ?_
  refine Ops.val (opV_field Fx.fld_129_2 rfl) rfl ?_
  refine Ops.val (opV_load Fx.scal_127 rfl (cellOf (i := 2) (A := _ :: _) (.mem (.tail _ (.head _))) (List.Mem.head _) rfl)) rfl ?_
  refine Ops.call rfl (opC_call Fx.cal_87 rfl (fun w hw => segKeys hw)) rfl ?_
  rintro v12 _ ⟨q, rfl, rfl⟩
  refine Ops.call rfl (opC_call Fx.cal_86 rfl (fun w hw => segSorted hn hk hMs0 hSe0 hw (.mem (by repeat (first | exact List.Mem.head _ | apply List.Mem.tail))) (.tail _ (.tail _ (.head _))) (.mem (by repeat (first | exact List.Mem.head _ | apply List.Mem.tail))))) rfl ?_
  rintro v13 _ ⟨ns, AN, hAN, hns, rfl⟩
  refine Ops.val (opV_len Fx.sl_77 rfl hAN.isSlice) rfl ?_
  have hnl : ns.length = S.segs.length := by rw [hns]; simp
  refine Ops.val (opV_move rfl) rfl ?_
  refine Ops.nil ?_
  refine Ex.next ?_
  refine Cod.block ?_
  refine Cod.loop (X := Nat × SK × DK × Hp × Hp) (fun (i, S1, D1, A1, DA1) => [(1, .pointer (some ⟨b1, 0, none⟩)), (13, v13), (14, .int .i64 ns.length), (15, .int .i64 (i : Int))]) (fun (i, S1, D1, A1, DA1) => A1 :: DA1 :: [(b1, .cells #[.pointer (some ⟨s, 0, none⟩)] 25)] :: AN :: G) (fun (i, S1, D1, A1, DA1) => i ≤ ns.length ∧ StoreA s d S1 A1 ∧ DiskA d D1 DA1 ∧ I i S1 D1) (fun (i, S1, D1, A1, DA1) => ns.length - i) ((0, S, D, _, DA)) (⟨Nat.zero_le _, hS0, hD, hI0⟩) (by repeat (first | exact trivial | refine ⟨rfl, ?_⟩)) (fun _ h => h.subs (by first | ((repeat (first | exact Sub.refl | exact Sub.nil | apply Sub.emp | (apply Sub.cons; focus ((repeat (first | exact Pick.hd | apply Pick.tl)); done)) | (apply Sub.con; focus ((repeat (first | exact Pick.hd | apply Pick.tl)); done)) | (apply Sub.app; focus ((repeat (first | exact Pick.hd | apply Pick.tl)); done)) | apply Sub.drop)); done) | ((repeat (first | rw [List.append_assoc] | rw [List.cons_append] | rw [List.nil_append] | rw [List.append_nil])); (repeat (first | exact Sub.refl | exact Sub.nil | apply Sub.emp | (apply Sub.cons; focus ((repeat (first | exact Pick.hd | apply Pick.tl)); done)) | (apply Sub.con; focus ((repeat (first | exact Pick.hd | apply Pick.tl)); done)) | (apply Sub.app; focus ((repeat (first | exact Pick.hd | apply Pick.tl)); done)) | apply Sub.drop)); done))) ?_
  rintro ⟨i, S1, D1, A1, DA1⟩ ⟨hi, hS1, hD1, hI⟩
  try dsimp only
  refine Cod.seq ?_
  refine Cod.region ?_
  refine Ops.val (opV_lss rfl rfl (by first | exact decide_eq_true (by omega) | exact decide_eq_false (by omega) | rfl)) rfl ?_
  refine Ops.nil ?_
  refine Ex.next ?_
  refine Cod.seq ?_
  refine Cod.cond rfl (fun hc => ?_) (fun hc => ?_)
  · try simp at hc
    obtain ⟨n, hxn⟩ : ∃ x, ns[i]? = some x := ⟨_, List.getElem?_eq_getElem (by omega)⟩
    have hx := hxn
    rw [hns] at hx
    obtain ⟨⟨g, hsk, hok0⟩, hI2⟩ := hstep i n S1 D1 hx hI
    have hS10 := hS1
    obtain ⟨mb, ob, kb, sm, os, ks, BA, GA, hM, hBo, hMs, hSe, rfl⟩ := hS1
    obtain ⟨kv, hkn⟩ : ∃ v, lkp n ks = some v := by
        cases hq : lkp n ks with
        | none => rw [(MapH.none_iff hSe).1 hq] at hsk; cases hsk
        | some v => exact ⟨v, rfl⟩
    obtain ⟨sb, lb, iv, g', RI, GA', rfl, hsk', hRI, hsown, hsput, hsdel, hin⟩ := SegM.get (e := e) hSe hkn
    rw [hsk] at hsk'
    cases hsk'
    have hin2 : ∀ x ∈ GA, x ∈ (s, Obj.cells #[.pointer (some ⟨d, 0, none⟩), .map (some mb), .map (some sm), .int .i64 S1.last, .int .i64 S1.current] 129) :: (mb, ob) :: (sm, os) :: (BA ++ GA) := fun x hx => .tail _ (.tail _ (.tail _ (List.mem_append.2 (.inr hx))))
    refine Cod.skip ?_
    refine Ex.next ?_
    refine Cod.seq ?_
    refine Cod.block ?_
    refine Cod.seq ?_
    refine Cod.region ?_
    refine Ops.val (opV_indexAddr Fx.sl_77 rfl hAN.sl (k := i) rfl (by omega)) rfl ?_
    refine Ops.val (opV_loadE Fx.scal_3 rfl hAN.sl (.mem (by repeat (first | exact List.Mem.head _ | apply List.Mem.tail))) (u := .int .i64 n) (by simp [hxn])) rfl ?_
    refine Ops.val (opV_assign rfl) rfl ?_
    refine Ops.nil ?_
    refine Ex.next ?_
    refine Cod.seq ?_
    refine Cod.region ?_
    refine Ops.val (opV_load Fx.scal_25 rfl ((by repeat (first | exact Cell.one rfl | assumption | apply Cell.tl)))) rfl ?_
    refine Ops.val (opV_nil rfl) rfl ?_
    refine Ops.val (opV_field Fx.fld_129_2 rfl) rfl ?_
    refine Ops.val (opV_load Fx.scal_127 rfl (cellOf (i := 2) (.mem (List.Mem.head _)) (List.Mem.head _) rfl)) rfl ?_
    refine Ops.val (opV_move rfl) rfl ?_
    refine Ops.val (opV_lookup (κ := Int) Fx.map_127 rfl rfl (.mem (List.Mem.head _)) (.tail _ (.tail _ (.head _))) hMs) rfl ?_
    rw [hkn]
    refine Ops.val (opV_assign rfl) rfl ?_
    refine Ops.nil ?_
    refine Ex.next ?_
    refine Cod.seq ?_
    refine Cod.seq ?_
    refine Cod.region ?_
    refine Ops.val (opV_move rfl) rfl ?_
    refine Ops.val (opV_nil rfl) rfl ?_
    refine Ops.val (opV_field Fx.fld_138_2 rfl) rfl ?_
    refine Ops.val (opV_load Fx.scal_4 rfl (cellOf (i := 2) (.mem (List.Mem.head _)) (hin2 _ (hin _ (List.mem_append.2 (.inl (.head _))))) rfl)) rfl ?_
    refine Ops.val (opV_not rfl) rfl ?_
    refine Ops.nil ?_
    refine Ex.next ?_
    refine Cod.cond rfl (fun hst => ?_) (fun hst => ?_)
    · try simp at hst
      have hst' : g.stale = false := by simpa using hst
      have hc0 : coll1 S1 D1 n = (S1, D1) := by simp only [coll1, hsk, hst', if_true]
      rw [hc0] at hI2
      refine Cod.exit ?_
      refine Ex.thenExit ?_
      refine Ex.blockHit ?_
      refine Ex.next ?_
      refine Cod.region ?_
      refine Ops.val (opV_add64 rfl rfl (by omega)) rfl ?_
      refine Ops.val (opV_move rfl) rfl ?_
      refine Ops.nil ?_
      refine Ex.toN (fun _ _ hs => ⟨(i + 1, S1, D1, _, DA1), ⟨by dsimp only; omega, hS10, hD1, hI2⟩, (by first | omega | (dsimp only; omega) | (simp; omega) | (simp; done)), hs⟩) (by repeat (first | exact trivial | refine ⟨rfl, ?_⟩)) (fun _ h => h.subs (by first | ((repeat (first | exact Sub.refl | exact Sub.nil | apply Sub.emp | (apply Sub.cons; focus ((repeat (first | exact Pick.hd | apply Pick.tl)); done)) | (apply Sub.con; focus ((repeat (first | exact Pick.hd | apply Pick.tl)); done)) | (apply Sub.app; focus ((repeat (first | exact Pick.hd | apply Pick.tl)); done)) | apply Sub.drop)); done) | ((repeat (first | rw [List.append_assoc] | rw [List.cons_append] | rw [List.nil_append] | rw [List.append_nil])); (repeat (first | exact Sub.refl | exact Sub.nil | apply Sub.emp | (apply Sub.cons; focus ((repeat (first | exact Pick.hd | apply Pick.tl)); done)) | (apply Sub.con; focus ((repeat (first | exact Pick.hd | apply Pick.tl)); done)) | (apply Sub.app; focus ((repeat (first | exact Pick.hd | apply Pick.tl)); done)) | apply Sub.drop)); done)))
    · try simp at hst
      have hst' : g.stale = true := by simpa using hst
      have hok := hok0 hst'
      refine Cod.skip ?_
      refine Ex.next ?_
      refine Cod.seq ?_
      refine Cod.region ?_
      refine Ops.val (opV_move rfl) rfl ?_
      refine Ops.val (opV_nil rfl) rfl ?_
      refine Ops.val (opV_field Fx.fld_138_1 rfl) rfl ?_
      refine Ops.val (opV_load Fx.scal_77 rfl (cellOf (i := 1) (.mem (List.Mem.head _)) (hin2 _ (hin _ (List.mem_append.2 (.inl (.head _))))) rfl)) rfl ?_
      refine Ops.call rfl (opC_call Fx.cal_89 rfl (fun w hw => clone_ints hw (hRI.sl.mono fun x hx => hin2 x (hin x (List.mem_append.2 (.inr (List.mem_append.2 (.inr hx)))))) (.mem (List.Mem.head _)) (by intro u hu; obtain ⟨z, _, rfl⟩ := List.mem_map.1 hu; rfl) (by have := hok.ids; omega) (by have := hok.ids; omega))) rfl ?_
      rintro v34 _ ⟨A34, hA34, rfl⟩
      refine Ops.val (opV_makeFunc rfl rfl) rfl ?_
      refine Ops.call rfl (opC_call Fx.cal_88 rfl (fun w hw => deleteInts (tells (q := b1) (T := 25) (fz := (0, 0)) hS10) hw (A := A34) (by repeat (first | exact Pick.hd | apply Pick.tl)) (fun B hB => by rcases List.mem_cons.1 hB with rfl | hB; exact (.mem (by repeat (first | exact List.Mem.head _ | apply List.Mem.tail))); rw [List.mem_singleton] at hB; subst hB; exact (.mem (by repeat (first | exact List.Mem.head _ | apply List.Mem.tail)))) rfl (by have := hok.ids; omega) hA34)) rfl ?_
      rintro v36 _ ⟨A36, hA36, rfl⟩
      have hlive : ∀ id ∈ S1.live g, ∃ bb dv data' held' seg', ∃ R BA' : Hp, lkp id kb = some (.pointer (some ⟨bb, 0, none⟩)) ∧ lkp id S1.bodies = some (data', held', seg') ∧ Row 5 1 dv data'.length (bcells data') R ∧ (∀ x ∈ bodB bb dv held' seg' ++ R, x ∈ BA) := by
          intro id hid
          have h2 := (List.mem_filter.1 hid).2
          obtain ⟨bv, hkb⟩ : ∃ v, lkp id kb = some v := by
            cases hq : lkp id kb with
            | none => rw [(MapH.none_iff hBo).1 hq] at h2; simp at h2
            | some v => exact ⟨v, rfl⟩
          obtain ⟨bb, dv, data', held', seg', R, BA', rfl, hk', hd, _, _, _, hin⟩ := BodM.get (e := e) hBo hkb
          exact ⟨bb, dv, data', held', seg', R, BA', hkb, hk', hd, hin⟩
      refine Ops.val (opV_assign rfl) rfl ?_
      refine Ops.nil ?_
      refine Ex.next ?_
      refine Cod.seq ?_
      refine Cod.seq ?_
      refine Cod.region ?_
      refine Ops.val (opV_move rfl) rfl ?_
      refine Ops.val (opV_len Fx.sl_77 rfl hA36.isSlice) rfl ?_
      refine Ops.val (opV_eql rfl rfl (by first | exact decide_eq_true (by omega) | exact decide_eq_false (by omega) | rfl)) rfl ?_
      refine Ops.val (opV_move rfl) rfl ?_
      refine Ops.cases 40 rfl (fun hlen => ?_) (fun hlen => ?_)
      · skip
        refine Ops.valg rfl (opV_move rfl) rfl ?_
        refine Ops.valg rfl (opV_load Fx.scal_25 rfl ((by repeat (first | exact Cell.one rfl | assumption | apply Cell.tl)))) rfl ?_
        refine Ops.valg rfl (opV_nil rfl) rfl ?_
        refine Ops.valg rfl (opV_field Fx.fld_129_4 rfl) rfl ?_
        refine Ops.valg rfl (opV_load Fx.scal_3 rfl (cellOf (i := 4) (.mem (.tail _ (List.Mem.head _))) (List.Mem.head _) rfl)) rfl ?_
        refine Ops.valg rfl (opV_neq rfl rfl rfl) rfl ?_
        refine Ops.val (opV_pickT rfl rfl) rfl ?_
        refine Ops.nil ?_
        refine Ex.next ?_
        refine Cod.cond rfl (fun hcur => ?_) (fun hcur => ?_)
        · try simp at hcur
          have hlen0 : S1.live g = [] := by
              have : ((S1.live g).length : Int) = 0 := of_decide_eq_true hlen
              exact List.eq_nil_of_length_eq_zero (by omega)
          have hnd : S1.live g = [] ∧ n ≠ S1.current := ⟨hlen0, by simpa using hcur⟩
          refine Cod.heap (fun _ h => hsown _ _ ((Owns.store (h.pick (A := (s, _) :: (mb, ob) :: (sm, os) :: (BA ++ GA)) (by repeat (first | exact Pick.hd | apply Pick.tl)))).pick (A := GA) (by repeat (first | exact Pick.hd | apply Pick.tl)))) ?_
          obtain ⟨⟨fd, fs⟩, hfile⟩ := Option.isSome_iff_exists.1 hok.file
          refine Cod.seq ?_
          refine Cod.region ?_
          refine Ops.val (opV_move rfl) rfl ?_
          refine Ops.val (opV_nil rfl) rfl ?_
          refine Ops.val (opV_field Fx.fld_138_0 rfl) rfl ?_
          refine Ops.val (opV_load Fx.scal_136 rfl (by repeat (first | exact Cell.one rfl | assumption | apply Cell.tl))) rfl ?_
          refine Ops.call rfl (opC_call Fx.cal_91 rfl (fun w hw => drop_spec (gen := g.gen) (size := g.size) (base := g.base) hG hok.base (by have := hok.gen; omega) hfile (by have := hok.pn; omega) (by have := hok.us; omega) hw (A := DA1) (by repeat (first | exact Pick.hd | apply Pick.tl)) (.mem (by repeat (first | exact List.Mem.head _ | apply List.Mem.tail))) hD1)) rfl ?_
          rintro v52 _ ⟨rfl, DA2, hDA2, rfl⟩
          refine Ops.nil ?_
          refine Ex.next ?_
          refine Cod.seq ?_
          refine Cod.region ?_
          refine Ops.val (opV_load Fx.scal_25 rfl (by repeat (first | exact Cell.one rfl | assumption | apply Cell.tl))) rfl ?_
          refine Ops.val (opV_nil rfl) rfl ?_
          refine Ops.val (opV_field Fx.fld_129_2 rfl) rfl ?_
          refine Ops.val (opV_load Fx.scal_127 rfl (by repeat (first | exact Cell.one rfl | assumption | apply Cell.tl))) rfl ?_
          refine Ops.val (opV_move rfl) rfl ?_
          refine Ops.effN rfl (opE_delete (κ := Int) Fx.map_127 rfl rfl (by repeat (first | exact Pick.hd | apply Pick.tl)) hMs ) ?_
          rintro _ _ ⟨os', hMs', rfl⟩
          have hc1 : coll1 S1 D1 n = ({ S1 with segs := del n S1.segs }, D1.drop (fileF g.base g.gen)) := by simp only [coll1, hsk, hst']; rw [if_neg (by simp), if_pos hnd]
          rw [hc1] at hI2
          refine Ops.nil ?_
          refine Ex.next ?_
          refine Cod.exit ?_
          refine Ex.thenExit ?_
          refine Ex.blockHit ?_
          refine Ex.next ?_
          refine Cod.region ?_
          refine Ops.val (opV_add64 rfl rfl (by omega)) rfl ?_
          refine Ops.val (opV_move rfl) rfl ?_
          refine Ops.nil ?_
          refine Ex.toN (fun _ _ hs => ⟨(i + 1, { S1 with segs := del n S1.segs }, D1.drop (fileF g.base g.gen), (s, .cells #[.pointer (some ⟨d, 0, none⟩), .map (some mb), .map (some sm), .int .i64 S1.last, .int .i64 S1.current] 129) :: (mb, ob) :: (sm, os') :: (BA ++ GA'), DA2), ⟨by dsimp only; omega, ⟨mb, ob, kb, sm, os', _, BA, GA', hM, hBo, hMs', hsdel, rfl⟩, hDA2, hI2⟩, (by first | omega | (dsimp only; omega) | (simp; omega) | (simp; done)), hs⟩) (by repeat (first | exact trivial | refine ⟨rfl, ?_⟩)) (fun _ h => h.subs (by first | ((repeat (first | exact Sub.refl | exact Sub.nil | apply Sub.emp | (apply Sub.cons; focus ((repeat (first | exact Pick.hd | apply Pick.tl)); done)) | (apply Sub.con; focus ((repeat (first | exact Pick.hd | apply Pick.tl)); done)) | (apply Sub.app; focus ((repeat (first | exact Pick.hd | apply Pick.tl)); done)) | apply Sub.drop)); done) | ((repeat (first | rw [List.append_assoc] | rw [List.cons_append] | rw [List.nil_append] | rw [List.append_nil])); (repeat (first | exact Sub.refl | exact Sub.nil | apply Sub.emp | (apply Sub.cons; focus ((repeat (first | exact Pick.hd | apply Pick.tl)); done)) | (apply Sub.con; focus ((repeat (first | exact Pick.hd | apply Pick.tl)); done)) | (apply Sub.app; focus ((repeat (first | exact Pick.hd | apply Pick.tl)); done)) | apply Sub.drop)); done)))
        · try simp at hcur
          have hnd : ¬ (S1.live g = [] ∧ n ≠ S1.current) := fun q => q.2 (by simpa using hcur)
          refine Cod.heap (fun _ h => hsown _ _ ((Owns.store (h.pick (A := (s, _) :: (mb, ob) :: (sm, os) :: (BA ++ GA)) (by repeat (first | exact Pick.hd | apply Pick.tl)))).pick (A := GA) (by repeat (first | exact Pick.hd | apply Pick.tl)))) ?_
          refine Cod.skip ?_
          refine Ex.next ?_
          refine Cod.seq ?_
          refine Cod.seq ?_
          refine Cod.draw [3, 5, 8] [0, 1, 2, 4, 6, 7, 11] (segB sb lb iv g.stale :: [(b1, .cells #[.pointer (some ⟨s, 0, none⟩)] 25)] :: [(s, .cells #[.pointer (some ⟨d, 0, none⟩), .map (some mb), .map (some sm), .int .i64 S1.last, .int .i64 S1.current] 129)] :: []) [0, 1, 2, 3, 4, 5, 6, 7, 8, 9, 10, 11] M.mixed (by kernel_rfl) ?_
          refine AnyJ.valU rfl rfl rfl (opV_move rfl) rfl (fun _ _ _ h => h.2.elim) ?_
          refine AnyJ.valU rfl rfl rfl (opV_nil rfl) rfl (fun _ _ _ h => h.2.elim) ?_
          refine AnyJ.valU rfl rfl rfl (opV_field Fx.fld_138_0 rfl) rfl (fun _ _ _ h => h.2.elim) ?_
          refine AnyJ.val rfl rfl (opV_load Fx.scal_136 rfl (by repeat (first | exact Cell.one rfl | assumption | apply Cell.tl))) rfl (fun _ _ _ h => h.2.elim) (fun _ h => h.subs (by first | ((repeat (first | exact Sub.refl | exact Sub.nil | apply Sub.emp | (apply Sub.cons; focus ((repeat (first | exact Pick.hd | apply Pick.tl)); done)) | (apply Sub.con; focus ((repeat (first | exact Pick.hd | apply Pick.tl)); done)) | (apply Sub.app; focus ((repeat (first | exact Pick.hd | apply Pick.tl)); done)) | apply Sub.drop)); done) | ((repeat (first | rw [List.append_assoc] | rw [List.cons_append] | rw [List.nil_append] | rw [List.append_nil])); (repeat (first | exact Sub.refl | exact Sub.nil | apply Sub.emp | (apply Sub.cons; focus ((repeat (first | exact Pick.hd | apply Pick.tl)); done)) | (apply Sub.con; focus ((repeat (first | exact Pick.hd | apply Pick.tl)); done)) | (apply Sub.app; focus ((repeat (first | exact Pick.hd | apply Pick.tl)); done)) | apply Sub.drop)); done))) ?_
          refine AnyJ.valU rfl rfl rfl (opV_move rfl) rfl (fun _ _ _ h => h.2.elim) ?_
          refine AnyJ.val rfl rfl (opV_load Fx.scal_25 rfl (by repeat (first | exact Cell.one rfl | assumption | apply Cell.tl))) rfl (fun _ _ _ h => h.2.elim) (fun _ h => h.subs (by first | ((repeat (first | exact Sub.refl | exact Sub.nil | apply Sub.emp | (apply Sub.cons; focus ((repeat (first | exact Pick.hd | apply Pick.tl)); done)) | (apply Sub.con; focus ((repeat (first | exact Pick.hd | apply Pick.tl)); done)) | (apply Sub.app; focus ((repeat (first | exact Pick.hd | apply Pick.tl)); done)) | apply Sub.drop)); done) | ((repeat (first | rw [List.append_assoc] | rw [List.cons_append] | rw [List.nil_append] | rw [List.append_nil])); (repeat (first | exact Sub.refl | exact Sub.nil | apply Sub.emp | (apply Sub.cons; focus ((repeat (first | exact Pick.hd | apply Pick.tl)); done)) | (apply Sub.con; focus ((repeat (first | exact Pick.hd | apply Pick.tl)); done)) | (apply Sub.app; focus ((repeat (first | exact Pick.hd | apply Pick.tl)); done)) | apply Sub.drop)); done))) ?_
          refine AnyJ.valU rfl rfl rfl (opV_nil rfl) rfl (fun _ _ _ h => h.2.elim) ?_
          refine AnyJ.valU rfl rfl rfl (opV_field Fx.fld_129_1 rfl) rfl (fun _ _ _ h => h.2.elim) ?_
          refine AnyJ.val rfl rfl (opV_load Fx.scal_126 rfl (by repeat (first | exact Cell.one rfl | assumption | apply Cell.tl))) rfl (fun _ _ _ h => h.2.elim) (fun _ h => h.subs (by first | ((repeat (first | exact Sub.refl | exact Sub.nil | apply Sub.emp | (apply Sub.cons; focus ((repeat (first | exact Pick.hd | apply Pick.tl)); done)) | (apply Sub.con; focus ((repeat (first | exact Pick.hd | apply Pick.tl)); done)) | (apply Sub.app; focus ((repeat (first | exact Pick.hd | apply Pick.tl)); done)) | apply Sub.drop)); done) | ((repeat (first | rw [List.append_assoc] | rw [List.cons_append] | rw [List.nil_append] | rw [List.append_nil])); (repeat (first | exact Sub.refl | exact Sub.nil | apply Sub.emp | (apply Sub.cons; focus ((repeat (first | exact Pick.hd | apply Pick.tl)); done)) | (apply Sub.con; focus ((repeat (first | exact Pick.hd | apply Pick.tl)); done)) | (apply Sub.app; focus ((repeat (first | exact Pick.hd | apply Pick.tl)); done)) | apply Sub.drop)); done))) ?_
          refine AnyJ.call rfl rfl (opC_call Fx.cal_64 rfl (fun w hw => record_spec (ids := S1.live g) (get := S1.data) rfl (by have := hok.rl; omega) hw hA36.sl (.mem (by repeat (first | exact List.Mem.head _ | apply List.Mem.tail))) hM (List.Mem.head _) (.mem (by repeat (first | exact List.Mem.head _ | apply List.Mem.tail))) (fun id hid => by obtain ⟨bb, dv, data', held', seg', R, BA', hkb, hk', hd, hin⟩ := hlive id hid; exact ⟨bb, dv, held', seg', BA, BA, hkb, (.mem (by repeat (first | exact List.Mem.head _ | apply List.Mem.tail))), hin _ (List.mem_append.2 (.inl (.head _))), (.mem (by repeat (first | exact List.Mem.head _ | apply List.Mem.tail))), by have := hd.sl.mono (fun x hx => hin x (List.mem_append.2 (.inr hx))); simpa [SK.data, hk'] using this⟩))) rfl ?_
          rintro v67 _ ⟨A67, hA67, rfl⟩
          refine ⟨(by first | (intro _ _ h; refine h.subs ?_; (repeat (first | exact Sub.refl | exact Sub.nil | apply Sub.emp | (apply Sub.cons; focus ((repeat (first | exact Pick.hd | apply Pick.tl)); done)) | (apply Sub.con; focus ((repeat (first | exact Pick.hd | apply Pick.tl)); done)) | (apply Sub.app; focus ((repeat (first | exact Pick.hd | apply Pick.tl)); done)) | apply Sub.drop)); done) | exact lead_no (by kernel_rfl)), ?_⟩
          refine AnyJ.call rfl rfl (opC_call Fx.cal_83 rfl (fun w hw => renew_ok (gen := g.gen) (size := g.size) (base := g.base) hG hok.base (by have := hok.gen; omega) (by have := hok.us; omega) hok.pn hok.po hok.rm hok.rl hok.fit hok.file rfl hw (A := DA1) (by repeat (first | exact Pick.hd | apply Pick.tl)) (by repeat (first | exact Pick.hd | apply Pick.tl)) hD1 (.mem (by repeat (first | exact List.Mem.head _ | apply List.Mem.tail))) hA67.sl)) rfl ?_
          rintro v68 _ ⟨rfl, DA2, hDA2, rfl⟩
          refine ⟨(by first | (intro _ _ h; refine h.subs ?_; (repeat (first | exact Sub.refl | exact Sub.nil | apply Sub.emp | (apply Sub.cons; focus ((repeat (first | exact Pick.hd | apply Pick.tl)); done)) | (apply Sub.con; focus ((repeat (first | exact Pick.hd | apply Pick.tl)); done)) | (apply Sub.app; focus ((repeat (first | exact Pick.hd | apply Pick.tl)); done)) | apply Sub.drop)); done) | exact lead_no (by kernel_rfl)), ?_⟩
          refine AnyJ.valU rfl rfl rfl (opV_assign rfl) rfl (fun _ _ _ h => h.2.elim) ?_
          refine AnyJ.nil ?_
          refine Ex.next ?_
          refine Cod.seq ?_
          refine Cod.region ?_
          refine Ops.val (opV_move rfl) rfl ?_
          refine Ops.val (opV_neq rfl rfl (by first | exact decide_eq_true (by omega) | exact decide_eq_false (by omega) | rfl)) rfl ?_
          refine Ops.nil ?_
          refine Ex.next ?_
          refine Cod.condF rfl ?_
          have hsp := hsput { g with gen := g.gen + 1, size := (wrapped (recF S1.data (S1.live g))).length, ids := S1.live g, stale := false } v36 A36 hA36
          have hc1 : coll1 S1 D1 n = ({ S1 with segs := ins n { g with gen := g.gen + 1, size := (wrapped (recF S1.data (S1.live g))).length, ids := S1.live g, stale := false } S1.segs }, renewD D1 g.base g.gen (recF S1.data (S1.live g))) := by simp only [coll1, hsk, hst']; rw [if_neg (by simp), if_neg hnd]
          rw [hc1] at hI2
          refine Cod.skip ?_
          refine Ex.next ?_
          refine Cod.region ?_
          refine Ops.val (opV_move rfl) rfl ?_
          refine Ops.val (opV_move rfl) rfl ?_
          refine Ops.val (opV_move rfl) rfl ?_
          refine Ops.val (opV_nil rfl) rfl ?_
          refine Ops.val (opV_field Fx.fld_138_1 rfl) rfl ?_
          refine Ops.st rfl (opS_store Fx.scal_77 Fx.sz1_77 rfl rfl (by first | rfl | assumption | exact Row.one (by assumption) | exact Sl.one (by assumption)) rfl (by repeat (first | exact Upd.hd | apply Upd.tl)) (by repeat (first | exact LSet.hd | apply LSet.tl))) ?_
          refine Ops.val (opV_nil rfl) rfl ?_
          refine Ops.val (opV_field Fx.fld_138_2 rfl) rfl ?_
          refine Ops.st rfl (opS_store Fx.scal_4 Fx.sz1_4 rfl rfl (by first | rfl | assumption | exact Row.one (by assumption) | exact Sl.one (by assumption)) rfl (by repeat (first | exact Upd.hd | apply Upd.tl)) (by repeat (first | exact LSet.hd | apply LSet.tl))) ?_
          refine Ops.nil ?_
          refine Ex.blockNormal ?_
          refine Ex.next ?_
          refine Cod.region ?_
          refine Ops.val (opV_add64 rfl rfl (by omega)) rfl ?_
          refine Ops.val (opV_move rfl) rfl ?_
          refine Ops.nil ?_
          refine Ex.toN (fun _ _ hs => ⟨(i + 1, { S1 with segs := ins n { g with gen := g.gen + 1, size := (wrapped (recF S1.data (S1.live g))).length, ids := S1.live g, stale := false } S1.segs }, renewD D1 g.base g.gen (recF S1.data (S1.live g)), (s, .cells #[.pointer (some ⟨d, 0, none⟩), .map (some mb), .map (some sm), .int .i64 S1.last, .int .i64 S1.current] 129) :: (mb, ob) :: (sm, os) :: (BA ++ (segB sb lb v36 false ++ (logB lb d g.base (g.gen + 1) (wrapped (recF S1.data (S1.live g))).length ++ (A36 ++ GA')))), DA2), ⟨by dsimp only; omega, ⟨mb, ob, kb, sm, os, ks, BA, _, hM, hBo, hMs, hsp, rfl⟩, hDA2, hI2⟩, (by first | omega | (dsimp only; omega) | (simp; omega) | (simp; done)), hs⟩) (by repeat (first | exact trivial | refine ⟨rfl, ?_⟩)) (fun _ h => h.subs (by first | ((repeat (first | exact Sub.refl | exact Sub.nil | apply Sub.emp | (apply Sub.cons; focus ((repeat (first | exact Pick.hd | apply Pick.tl)); done)) | (apply Sub.con; focus ((repeat (first | exact Pick.hd | apply Pick.tl)); done)) | (apply Sub.app; focus ((repeat (first | exact Pick.hd | apply Pick.tl)); done)) | apply Sub.drop)); done) | ((repeat (first | rw [List.append_assoc] | rw [List.cons_append] | rw [List.nil_append] | rw [List.append_nil])); (repeat (first | exact Sub.refl | exact Sub.nil | apply Sub.emp | (apply Sub.cons; focus ((repeat (first | exact Pick.hd | apply Pick.tl)); done)) | (apply Sub.con; focus ((repeat (first | exact Pick.hd | apply Pick.tl)); done)) | (apply Sub.app; focus ((repeat (first | exact Pick.hd | apply Pick.tl)); done)) | apply Sub.drop)); done)))
      · skip
        refine Ops.skipg rfl rfl ?_
        refine Ops.skipg rfl rfl ?_
        refine Ops.skipg rfl rfl ?_
        refine Ops.skipg rfl rfl ?_
        refine Ops.skipg rfl rfl ?_
        refine Ops.skipg rfl rfl ?_
        refine Ops.val (opV_pickF rfl rfl) rfl ?_
        refine Ops.nil ?_
        refine Ex.next ?_
        refine Cod.condF rfl ?_
        have hnd : ¬ (S1.live g = [] ∧ n ≠ S1.current) := fun q => by
            have h0 : ¬ ((S1.live g).length : Int) = 0 := of_decide_eq_false hlen
            rw [q.1] at h0
            exact h0 rfl
        refine Cod.heap (fun _ h => hsown _ _ ((Owns.store (h.pick (A := (s, _) :: (mb, ob) :: (sm, os) :: (BA ++ GA)) (by repeat (first | exact Pick.hd | apply Pick.tl)))).pick (A := GA) (by repeat (first | exact Pick.hd | apply Pick.tl)))) ?_
        refine Cod.skip ?_
        refine Ex.next ?_
        refine Cod.seq ?_
        refine Cod.seq ?_
        refine Cod.draw [3, 5, 8] [0, 1, 2, 4, 6, 7, 11] (segB sb lb iv g.stale :: [(b1, .cells #[.pointer (some ⟨s, 0, none⟩)] 25)] :: [(s, .cells #[.pointer (some ⟨d, 0, none⟩), .map (some mb), .map (some sm), .int .i64 S1.last, .int .i64 S1.current] 129)] :: []) [0, 1, 2, 3, 4, 5, 6, 7, 8, 9, 10, 11] M.mixed (by kernel_rfl) ?_
        refine AnyJ.valU rfl rfl rfl (opV_move rfl) rfl (fun _ _ _ h => h.2.elim) ?_
        refine AnyJ.valU rfl rfl rfl (opV_nil rfl) rfl (fun _ _ _ h => h.2.elim) ?_
        refine AnyJ.valU rfl rfl rfl (opV_field Fx.fld_138_0 rfl) rfl (fun _ _ _ h => h.2.elim) ?_
        refine AnyJ.val rfl rfl (opV_load Fx.scal_136 rfl (by repeat (first | exact Cell.one rfl | assumption | apply Cell.tl))) rfl (fun _ _ _ h => h.2.elim) (fun _ h => h.subs (by first | ((repeat (first | exact Sub.refl | exact Sub.nil | apply Sub.emp | (apply Sub.cons; focus ((repeat (first | exact Pick.hd | apply Pick.tl)); done)) | (apply Sub.con; focus ((repeat (first | exact Pick.hd | apply Pick.tl)); done)) | (apply Sub.app; focus ((repeat (first | exact Pick.hd | apply Pick.tl)); done)) | apply Sub.drop)); done) | ((repeat (first | rw [List.append_assoc] | rw [List.cons_append] | rw [List.nil_append] | rw [List.append_nil])); (repeat (first | exact Sub.refl | exact Sub.nil | apply Sub.emp | (apply Sub.cons; focus ((repeat (first | exact Pick.hd | apply Pick.tl)); done)) | (apply Sub.con; focus ((repeat (first | exact Pick.hd | apply Pick.tl)); done)) | (apply Sub.app; focus ((repeat (first | exact Pick.hd | apply Pick.tl)); done)) | apply Sub.drop)); done))) ?_
        refine AnyJ.valU rfl rfl rfl (opV_move rfl) rfl (fun _ _ _ h => h.2.elim) ?_
        refine AnyJ.val rfl rfl (opV_load Fx.scal_25 rfl (by repeat (first | exact Cell.one rfl | assumption | apply Cell.tl))) rfl (fun _ _ _ h => h.2.elim) (fun _ h => h.subs (by first | ((repeat (first | exact Sub.refl | exact Sub.nil | apply Sub.emp | (apply Sub.cons; focus ((repeat (first | exact Pick.hd | apply Pick.tl)); done)) | (apply Sub.con; focus ((repeat (first | exact Pick.hd | apply Pick.tl)); done)) | (apply Sub.app; focus ((repeat (first | exact Pick.hd | apply Pick.tl)); done)) | apply Sub.drop)); done) | ((repeat (first | rw [List.append_assoc] | rw [List.cons_append] | rw [List.nil_append] | rw [List.append_nil])); (repeat (first | exact Sub.refl | exact Sub.nil | apply Sub.emp | (apply Sub.cons; focus ((repeat (first | exact Pick.hd | apply Pick.tl)); done)) | (apply Sub.con; focus ((repeat (first | exact Pick.hd | apply Pick.tl)); done)) | (apply Sub.app; focus ((repeat (first | exact Pick.hd | apply Pick.tl)); done)) | apply Sub.drop)); done))) ?_
        refine AnyJ.valU rfl rfl rfl (opV_nil rfl) rfl (fun _ _ _ h => h.2.elim) ?_
        refine AnyJ.valU rfl rfl rfl (opV_field Fx.fld_129_1 rfl) rfl (fun _ _ _ h => h.2.elim) ?_
        refine AnyJ.val rfl rfl (opV_load Fx.scal_126 rfl (by repeat (first | exact Cell.one rfl | assumption | apply Cell.tl))) rfl (fun _ _ _ h => h.2.elim) (fun _ h => h.subs (by first | ((repeat (first | exact Sub.refl | exact Sub.nil | apply Sub.emp | (apply Sub.cons; focus ((repeat (first | exact Pick.hd | apply Pick.tl)); done)) | (apply Sub.con; focus ((repeat (first | exact Pick.hd | apply Pick.tl)); done)) | (apply Sub.app; focus ((repeat (first | exact Pick.hd | apply Pick.tl)); done)) | apply Sub.drop)); done) | ((repeat (first | rw [List.append_assoc] | rw [List.cons_append] | rw [List.nil_append] | rw [List.append_nil])); (repeat (first | exact Sub.refl | exact Sub.nil | apply Sub.emp | (apply Sub.cons; focus ((repeat (first | exact Pick.hd | apply Pick.tl)); done)) | (apply Sub.con; focus ((repeat (first | exact Pick.hd | apply Pick.tl)); done)) | (apply Sub.app; focus ((repeat (first | exact Pick.hd | apply Pick.tl)); done)) | apply Sub.drop)); done))) ?_
        refine AnyJ.call rfl rfl (opC_call Fx.cal_64 rfl (fun w hw => record_spec (ids := S1.live g) (get := S1.data) rfl (by have := hok.rl; omega) hw hA36.sl (.mem (by repeat (first | exact List.Mem.head _ | apply List.Mem.tail))) hM (List.Mem.head _) (.mem (by repeat (first | exact List.Mem.head _ | apply List.Mem.tail))) (fun id hid => by obtain ⟨bb, dv, data', held', seg', R, BA', hkb, hk', hd, hin⟩ := hlive id hid; exact ⟨bb, dv, held', seg', BA, BA, hkb, (.mem (by repeat (first | exact List.Mem.head _ | apply List.Mem.tail))), hin _ (List.mem_append.2 (.inl (.head _))), (.mem (by repeat (first | exact List.Mem.head _ | apply List.Mem.tail))), by have := hd.sl.mono (fun x hx => hin x (List.mem_append.2 (.inr hx))); simpa [SK.data, hk'] using this⟩))) rfl ?_
        rintro v67 _ ⟨A67, hA67, rfl⟩
        refine ⟨(by first | (intro _ _ h; refine h.subs ?_; (repeat (first | exact Sub.refl | exact Sub.nil | apply Sub.emp | (apply Sub.cons; focus ((repeat (first | exact Pick.hd | apply Pick.tl)); done)) | (apply Sub.con; focus ((repeat (first | exact Pick.hd | apply Pick.tl)); done)) | (apply Sub.app; focus ((repeat (first | exact Pick.hd | apply Pick.tl)); done)) | apply Sub.drop)); done) | exact lead_no (by kernel_rfl)), ?_⟩
        refine AnyJ.call rfl rfl (opC_call Fx.cal_83 rfl (fun w hw => renew_ok (gen := g.gen) (size := g.size) (base := g.base) hG hok.base (by have := hok.gen; omega) (by have := hok.us; omega) hok.pn hok.po hok.rm hok.rl hok.fit hok.file rfl hw (A := DA1) (by repeat (first | exact Pick.hd | apply Pick.tl)) (by repeat (first | exact Pick.hd | apply Pick.tl)) hD1 (.mem (by repeat (first | exact List.Mem.head _ | apply List.Mem.tail))) hA67.sl)) rfl ?_
        rintro v68 _ ⟨rfl, DA2, hDA2, rfl⟩
        refine ⟨(by first | (intro _ _ h; refine h.subs ?_; (repeat (first | exact Sub.refl | exact Sub.nil | apply Sub.emp | (apply Sub.cons; focus ((repeat (first | exact Pick.hd | apply Pick.tl)); done)) | (apply Sub.con; focus ((repeat (first | exact Pick.hd | apply Pick.tl)); done)) | (apply Sub.app; focus ((repeat (first | exact Pick.hd | apply Pick.tl)); done)) | apply Sub.drop)); done) | exact lead_no (by kernel_rfl)), ?_⟩
        refine AnyJ.valU rfl rfl rfl (opV_assign rfl) rfl (fun _ _ _ h => h.2.elim) ?_
        refine AnyJ.nil ?_
        refine Ex.next ?_
        refine Cod.seq ?_
        refine Cod.region ?_
        refine Ops.val (opV_move rfl) rfl ?_
        refine Ops.val (opV_neq rfl rfl (by first | exact decide_eq_true (by omega) | exact decide_eq_false (by omega) | rfl)) rfl ?_
        refine Ops.nil ?_
        refine Ex.next ?_
        refine Cod.condF rfl ?_
        have hsp := hsput { g with gen := g.gen + 1, size := (wrapped (recF S1.data (S1.live g))).length, ids := S1.live g, stale := false } v36 A36 hA36
        have hc1 : coll1 S1 D1 n = ({ S1 with segs := ins n { g with gen := g.gen + 1, size := (wrapped (recF S1.data (S1.live g))).length, ids := S1.live g, stale := false } S1.segs }, renewD D1 g.base g.gen (recF S1.data (S1.live g))) := by simp only [coll1, hsk, hst']; rw [if_neg (by simp), if_neg hnd]
        rw [hc1] at hI2
        refine Cod.skip ?_
        refine Ex.next ?_
        refine Cod.region ?_
        refine Ops.val (opV_move rfl) rfl ?_
        refine Ops.val (opV_move rfl) rfl ?_
        refine Ops.val (opV_move rfl) rfl ?_
        refine Ops.val (opV_nil rfl) rfl ?_
        refine Ops.val (opV_field Fx.fld_138_1 rfl) rfl ?_
        refine Ops.st rfl (opS_store Fx.scal_77 Fx.sz1_77 rfl rfl (by first | rfl | assumption | exact Row.one (by assumption) | exact Sl.one (by assumption)) rfl (by repeat (first | exact Upd.hd | apply Upd.tl)) (by repeat (first | exact LSet.hd | apply LSet.tl))) ?_
        refine Ops.val (opV_nil rfl) rfl ?_
        refine Ops.val (opV_field Fx.fld_138_2 rfl) rfl ?_
        refine Ops.st rfl (opS_store Fx.scal_4 Fx.sz1_4 rfl rfl (by first | rfl | assumption | exact Row.one (by assumption) | exact Sl.one (by assumption)) rfl (by repeat (first | exact Upd.hd | apply Upd.tl)) (by repeat (first | exact LSet.hd | apply LSet.tl))) ?_
        refine Ops.nil ?_
        refine Ex.blockNormal ?_
        refine Ex.next ?_
        refine Cod.region ?_
        refine Ops.val (opV_add64 rfl rfl (by omega)) rfl ?_
        refine Ops.val (opV_move rfl) rfl ?_
        refine Ops.nil ?_
        refine Ex.toN (fun _ _ hs => ⟨(i + 1, { S1 with segs := ins n { g with gen := g.gen + 1, size := (wrapped (recF S1.data (S1.live g))).length, ids := S1.live g, stale := false } S1.segs }, renewD D1 g.base g.gen (recF S1.data (S1.live g)), (s, .cells #[.pointer (some ⟨d, 0, none⟩), .map (some mb), .map (some sm), .int .i64 S1.last, .int .i64 S1.current] 129) :: (mb, ob) :: (sm, os) :: (BA ++ (segB sb lb v36 false ++ (logB lb d g.base (g.gen + 1) (wrapped (recF S1.data (S1.live g))).length ++ (A36 ++ GA')))), DA2), ⟨by dsimp only; omega, ⟨mb, ob, kb, sm, os, ks, BA, _, hM, hBo, hMs, hsp, rfl⟩, hDA2, hI2⟩, (by first | omega | (dsimp only; omega) | (simp; omega) | (simp; done)), hs⟩) (by repeat (first | exact trivial | refine ⟨rfl, ?_⟩)) (fun _ h => h.subs (by first | ((repeat (first | exact Sub.refl | exact Sub.nil | apply Sub.emp | (apply Sub.cons; focus ((repeat (first | exact Pick.hd | apply Pick.tl)); done)) | (apply Sub.con; focus ((repeat (first | exact Pick.hd | apply Pick.tl)); done)) | (apply Sub.app; focus ((repeat (first | exact Pick.hd | apply Pick.tl)); done)) | apply Sub.drop)); done) | ((repeat (first | rw [List.append_assoc] | rw [List.cons_append] | rw [List.nil_append] | rw [List.append_nil])); (repeat (first | exact Sub.refl | exact Sub.nil | apply Sub.emp | (apply Sub.cons; focus ((repeat (first | exact Pick.hd | apply Pick.tl)); done)) | (apply Sub.con; focus ((repeat (first | exact Pick.hd | apply Pick.tl)); done)) | (apply Sub.app; focus ((repeat (first | exact Pick.hd | apply Pick.tl)); done)) | apply Sub.drop)); done)))
  · try simp at hc
    obtain rfl : i = ns.length := by omega
    refine Cod.exit ?_
    refine Ex.thenExit ?_
    refine Ex.thenExit ?_
    refine Ex.blockHit ?_
    refine Ex.next ?_
    refine Cod.seq ?_
    refine Cod.region ?_
    refine Ops.val (opV_assign rfl) rfl ?_
    refine Ops.nil ?_
    refine Ex.next ?_
    refine Cod.ret ?_
    exact Ex.ret1 rfl rfl (fun _ h => h.subs (by first | ((repeat (first | exact Sub.refl | exact Sub.nil | apply Sub.emp | (apply Sub.cons; focus ((repeat (first | exact Pick.hd | apply Pick.tl)); done)) | (apply Sub.con; focus ((repeat (first | exact Pick.hd | apply Pick.tl)); done)) | (apply Sub.app; focus ((repeat (first | exact Pick.hd | apply Pick.tl)); done)) | apply Sub.drop)); done) | ((repeat (first | rw [List.append_assoc] | rw [List.cons_append] | rw [List.nil_append] | rw [List.append_nil])); (repeat (first | exact Sub.refl | exact Sub.nil | apply Sub.emp | (apply Sub.cons; focus ((repeat (first | exact Pick.hd | apply Pick.tl)); done)) | (apply Sub.con; focus ((repeat (first | exact Pick.hd | apply Pick.tl)); done)) | (apply Sub.app; focus ((repeat (first | exact Pick.hd | apply Pick.tl)); done)) | apply Sub.drop)); done))) ⟨rfl, S1, D1, A1, DA1, hnl ▸ hI, hS1, hD1, rfl⟩
end
end Go.Proofs.YteejmoldhbfdnaaGreatDoor.Coll2
