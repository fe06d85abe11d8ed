/- Package disk. -/
import Derived.Test.YteejmoldhbfdnaaGreatDoorSeal
import Derived.Test.YteejmoldhbfdnaaGreatDoorCore4
namespace Go.Proofs.YteejmoldhbfdnaaGreatDoor.Disk
open Go.W Go.RowKit Lib1 Oct OctR
namespace Fx
theorem cal_212 : callable Tryz.prog 212 = true := by kernel_rfl
theorem cal_257 : callable Tryz.prog 257 = true := by kernel_rfl
theorem cal_312 : callable Tryz.prog 312 = true := by kernel_rfl
theorem cal_61 : callable Tryz.prog 61 = true := by kernel_rfl
theorem cal_74 : callable Tryz.prog 74 = true := by kernel_rfl
theorem fld_144_0 : fieldOff Tryz.prog 144 0 = some 0 := by kernel_rfl
theorem fld_144_1 : fieldOff Tryz.prog 144 1 = some 1 := by kernel_rfl
theorem fld_144_2 : fieldOff Tryz.prog 144 2 = some 2 := by kernel_rfl
theorem fld_144_3 : fieldOff Tryz.prog 144 3 = some 3 := by kernel_rfl
theorem fld_163_0 : fieldOff Tryz.prog 163 0 = some 0 := by kernel_rfl
theorem map_141 : mapInfo Tryz.prog 141 = some (.string, (.pointer none)) := by kernel_rfl
theorem ni_142 : notInt Tryz.prog 142 = true := by kernel_rfl
theorem ni_29 : notInt Tryz.prog 29 = true := by kernel_rfl
theorem ptr_161 : ptrT Tryz.prog 161 = true := by kernel_rfl
theorem scal_141 : scalarB Tryz.prog 141 = true := by kernel_rfl
theorem scal_142 : scalarB Tryz.prog 142 = true := by kernel_rfl
theorem scal_29 : scalarB Tryz.prog 29 = true := by kernel_rfl
theorem scal_3 : scalarB Tryz.prog 3 = true := by kernel_rfl
theorem scal_5 : scalarB Tryz.prog 5 = true := by kernel_rfl
theorem sl_142 : slInfo Tryz.prog 142 = some (166, 3, 48, some (.agg #[(S []), (.int .i64 0), (.slice none 0 0)])) := by kernel_rfl
theorem sl_29 : slInfo Tryz.prog 29 = some (5, 1, 1, some (.int .u8 0)) := by kernel_rfl
theorem st_163 : stInfo Tryz.prog 163 = some (#[(.slice none 0 0), (.slice none 0 0)], #[(0, 1), (1, 1)]) := by kernel_rfl
theorem st_166 : stInfo Tryz.prog 166 = some (#[(S []), (.int .i64 0), (.slice none 0 0)], #[(0, 1), (1, 1), (2, 1)]) := by kernel_rfl
theorem sz1_142 : (Tryz.prog.info? 142).map (·.size) = some 1 := by kernel_rfl
theorem sz1_29 : (Tryz.prog.info? 29).map (·.size) = some 1 := by kernel_rfl
theorem sz1_3 : (Tryz.prog.info? 3).map (·.size) = some 1 := by kernel_rfl
theorem und_5 : Tryz.prog.underlying 5 = some (.int .u8) := by kernel_rfl
theorem und_9 : Tryz.prog.underlying 9 = some .string := by kernel_rfl

end Fx
/-- What a file's name may bear. -/
def gch (c : UInt8) : Prop := (97 ≤ c.toNat ∧ c.toNat ≤ 122) ∨ (48 ≤ c.toNat ∧ c.toNat ≤ 57) ∨ c.toNat = 46 ∨ c.toNat = 45 ∨ c.toNat = 95
def good (s : Str) : Prop := s ≠ [] ∧ s.length ≤ 40 ∧ s ≠ [46] ∧ s ≠ [46, 46] ∧ ∀ c ∈ s, gch c
section
variable {e : Ctx} {w : World} {As F : List Hp} {A : Hp} {p : Nat} {s : Str} {v : Value}
theorem goodName (hs : good s) (hw : Owns e w As) : Calls Tryz.prog 74 #[S s] w (Ret e fun u Bs => u = .bool true ∧ Bs = As) := by
  obtain ⟨h1, h2, h3, h4, h5⟩ := hs
  refine enter Tryz.func74 rfl Tryz.ntmps74 hw rfl ?_
  refine Cod.seq ?_
  refine Cod.region ?_
  refine Ops.val (opV_assign rfl) rfl ?_
  refine Ops.nil ?_
  refine Ex.next ?_
  refine Cod.seq ?_
  refine Cod.seq ?_
  refine Cod.region ?_
  refine Ops.val (opV_move rfl) rfl ?_
  refine Ops.val (opV_seql rfl rfl (by first | exact decide_eq_true (by assumption) | exact decide_eq_false (by assumption) | rfl)) rfl ?_
  refine Ops.val (opV_move rfl) rfl ?_
  refine Ops.valg rfl (opV_move rfl) rfl ?_
  refine Ops.valg rfl (opV_slen Fx.und_9 rfl) rfl ?_
  refine Ops.valg rfl (opV_gtr rfl rfl (by first | exact decide_eq_true (by omega) | exact decide_eq_false (by omega) | rfl)) rfl ?_
  refine Ops.val (opV_pickF rfl rfl) rfl ?_
  refine Ops.val (opV_move rfl) rfl ?_
  refine Ops.valg rfl (opV_move rfl) rfl ?_
  refine Ops.valg rfl (opV_seql rfl rfl (by first | exact decide_eq_true (by assumption) | exact decide_eq_false (by assumption) | rfl)) rfl ?_
  refine Ops.val (opV_pickF rfl rfl) rfl ?_
  refine Ops.val (opV_move rfl) rfl ?_
  refine Ops.valg rfl (opV_move rfl) rfl ?_
  refine Ops.valg rfl (opV_seql rfl rfl (by first | exact decide_eq_true (by assumption) | exact decide_eq_false (by assumption) | rfl)) rfl ?_
  refine Ops.val (opV_pickF rfl rfl) rfl ?_
  refine Ops.nil ?_
  refine Ex.next ?_
  refine Cod.condF rfl ?_
  refine Cod.skip ?_
  refine Ex.next ?_
  refine Cod.seq ?_
  refine Cod.seq ?_
  refine Cod.region ?_
  refine Ops.val (opV_move rfl) rfl ?_
  refine Ops.eff rfl (opE_tobytes Fx.und_9 Fx.sl_29 Fx.und_5 rfl) rfl ?_
  rintro v21 _ ⟨A21, hA21, hnn21, rfl⟩
  refine Ops.val (opV_len Fx.sl_29 rfl (by first | exact ⟨_, _, rfl⟩ | exact Sl.isSlice (by assumption) | exact (Row.sl (by assumption)).isSlice)) rfl ?_
  refine Ops.val (opV_move rfl) rfl ?_
  refine Ops.nil ?_
  refine Ex.next ?_
  refine Cod.block ?_
  refine Cod.loop (X := Nat) (fun i => [(21, v21), (22, .int .i64 s.length), (23, .int .i64 i)]) (fun i => A21 :: As) (fun i => i ≤ s.length) (fun i => s.length - i) (0) ((Nat.zero_le _)) (by repeat (first | exact trivial | refine ⟨rfl, ?_⟩)) (fun _ h => h.subs (by first | ((repeat (first | exact Sub.refl | exact Sub.nil | apply Sub.emp | (apply Sub.cons; focus ((repeat (first | exact Pick.hd | apply Pick.tl)); done)) | (apply Sub.con; focus ((repeat (first | exact Pick.hd | apply Pick.tl)); done)) | (apply Sub.app; focus ((repeat (first | exact Pick.hd | apply Pick.tl)); done)) | apply Sub.drop)); done) | ((repeat (first | rw [List.append_assoc] | rw [List.cons_append] | rw [List.nil_append] | rw [List.append_nil])); (repeat (first | exact Sub.refl | exact Sub.nil | apply Sub.emp | (apply Sub.cons; focus ((repeat (first | exact Pick.hd | apply Pick.tl)); done)) | (apply Sub.con; focus ((repeat (first | exact Pick.hd | apply Pick.tl)); done)) | (apply Sub.app; focus ((repeat (first | exact Pick.hd | apply Pick.tl)); done)) | apply Sub.drop)); done))) ?_
  rintro i hi
  try dsimp only
  refine Cod.seq ?_
  refine Cod.region ?_
  refine Ops.val (opV_lss rfl rfl (by first | exact decide_eq_true (by omega) | exact decide_eq_false (by omega) | rfl)) rfl ?_
  refine Ops.nil ?_
  refine Ex.next ?_
  refine Cod.seq ?_
  refine Cod.cond rfl (fun hc => ?_) (fun hc => ?_)
  · try simp at hc
    obtain ⟨c, hcc⟩ : ∃ c, s[i]? = some c := ⟨_, List.getElem?_eq_getElem (by omega)⟩
    have hg := h5 c (List.mem_of_getElem? hcc)
    unfold gch at hg
    refine Cod.skip ?_
    refine Ex.next ?_
    refine Cod.seq ?_
    refine Cod.block ?_
    refine Cod.seq ?_
    refine Cod.region ?_
    refine Ops.val (opV_indexAddr Fx.sl_29 rfl hA21 (k := i) rfl (by omega)) rfl ?_
    refine Ops.val (opV_loadE Fx.scal_5 rfl hA21 (.mem (by repeat (first | exact List.Mem.head _ | apply List.Mem.tail))) (bcells_get hcc)) rfl ?_
    refine Ops.val (opV_assign rfl) rfl ?_
    refine Ops.nil ?_
    refine Ex.next ?_
    refine Cod.seq ?_
    refine Cod.region ?_
    refine Ops.val (opV_move rfl) rfl ?_
    refine Ops.val (opV_lss rfl rfl (by first | exact decide_eq_true (by omega) | exact decide_eq_false (by omega) | rfl)) rfl ?_
    refine Ops.val (opV_move rfl) rfl ?_
    refine Ops.cases 29 rfl (fun g1 => ?_) (fun g1 => ?_)
    · skip
      simp only [decide_eq_true_eq] at g1
      refine Ops.skipg rfl rfl ?_
      refine Ops.skipg rfl rfl ?_
      refine Ops.val (opV_pickT rfl rfl) rfl ?_
      refine Ops.val (opV_move rfl) rfl ?_
      refine Ops.valg rfl (opV_move rfl) rfl ?_
      refine Ops.valg rfl (opV_lss rfl rfl (by first | exact decide_eq_true (by omega) | exact decide_eq_false (by omega) | rfl)) rfl ?_
      refine Ops.valg rfl (opV_move rfl) rfl ?_
      refine Ops.cases 36 rfl (fun g2 => ?_) (fun g2 => ?_)
      · skip
        simp only [decide_eq_true_eq] at g2
        refine Ops.skipg rfl rfl ?_
        refine Ops.skipg rfl rfl ?_
        refine Ops.valg rfl (opV_pickT rfl rfl) rfl ?_
        refine Ops.val (opV_pickT rfl rfl) rfl ?_
        refine Ops.val (opV_move rfl) rfl ?_
        refine Ops.valg rfl (opV_move rfl) rfl ?_
        refine Ops.valg rfl (opV_neq rfl rfl (by first | exact decide_eq_true (by omega) | exact decide_eq_false (by omega) | rfl)) rfl ?_
        refine Ops.val (opV_pickT rfl rfl) rfl ?_
        refine Ops.val (opV_move rfl) rfl ?_
        refine Ops.cases 45 rfl (fun g3 => ?_) (fun g3 => ?_)
        · skip
          simp only [decide_eq_true_eq] at g3
          refine Ops.valg rfl (opV_move rfl) rfl ?_
          refine Ops.valg rfl (opV_neq rfl rfl (by first | exact decide_eq_true (by omega) | exact decide_eq_false (by omega) | rfl)) rfl ?_
          refine Ops.val (opV_pickT rfl rfl) rfl ?_
          refine Ops.val (opV_move rfl) rfl ?_
          refine Ops.skipg rfl rfl ?_
          refine Ops.skipg rfl rfl ?_
          refine Ops.val (opV_pickF rfl rfl) rfl ?_
          refine Ops.nil ?_
          refine Ex.next ?_
          refine Cod.condF rfl ?_
          refine Cod.skip ?_
          refine Ex.blockNormal ?_
          refine Ex.next ?_
          refine Cod.region ?_
          refine Ops.val (opV_add64 rfl rfl (by omega)) rfl ?_
          refine Ops.val (opV_move rfl) rfl ?_
          refine Ops.nil ?_
          refine Ex.toN (fun _ _ hs => ⟨i + 1, (by omega), (by first | omega | (dsimp only; omega) | (simp; omega) | (simp; done)), hs⟩) (by repeat (first | exact trivial | refine ⟨rfl, ?_⟩)) (fun _ h => h.subs (by first | ((repeat (first | exact Sub.refl | exact Sub.nil | apply Sub.emp | (apply Sub.cons; focus ((repeat (first | exact Pick.hd | apply Pick.tl)); done)) | (apply Sub.con; focus ((repeat (first | exact Pick.hd | apply Pick.tl)); done)) | (apply Sub.app; focus ((repeat (first | exact Pick.hd | apply Pick.tl)); done)) | apply Sub.drop)); done) | ((repeat (first | rw [List.append_assoc] | rw [List.cons_append] | rw [List.nil_append] | rw [List.append_nil])); (repeat (first | exact Sub.refl | exact Sub.nil | apply Sub.emp | (apply Sub.cons; focus ((repeat (first | exact Pick.hd | apply Pick.tl)); done)) | (apply Sub.con; focus ((repeat (first | exact Pick.hd | apply Pick.tl)); done)) | (apply Sub.app; focus ((repeat (first | exact Pick.hd | apply Pick.tl)); done)) | apply Sub.drop)); done)))
        · skip
          simp only [decide_eq_false_iff_not] at g3
          refine Ops.skipg rfl rfl ?_
          refine Ops.skipg rfl rfl ?_
          refine Ops.val (opV_pickF rfl rfl) rfl ?_
          refine Ops.val (opV_move rfl) rfl ?_
          refine Ops.skipg rfl rfl ?_
          refine Ops.skipg rfl rfl ?_
          refine Ops.val (opV_pickF rfl rfl) rfl ?_
          refine Ops.nil ?_
          refine Ex.next ?_
          refine Cod.condF rfl ?_
          refine Cod.skip ?_
          refine Ex.blockNormal ?_
          refine Ex.next ?_
          refine Cod.region ?_
          refine Ops.val (opV_add64 rfl rfl (by omega)) rfl ?_
          refine Ops.val (opV_move rfl) rfl ?_
          refine Ops.nil ?_
          refine Ex.toN (fun _ _ hs => ⟨i + 1, (by omega), (by first | omega | (dsimp only; omega) | (simp; omega) | (simp; done)), hs⟩) (by repeat (first | exact trivial | refine ⟨rfl, ?_⟩)) (fun _ h => h.subs (by first | ((repeat (first | exact Sub.refl | exact Sub.nil | apply Sub.emp | (apply Sub.cons; focus ((repeat (first | exact Pick.hd | apply Pick.tl)); done)) | (apply Sub.con; focus ((repeat (first | exact Pick.hd | apply Pick.tl)); done)) | (apply Sub.app; focus ((repeat (first | exact Pick.hd | apply Pick.tl)); done)) | apply Sub.drop)); done) | ((repeat (first | rw [List.append_assoc] | rw [List.cons_append] | rw [List.nil_append] | rw [List.append_nil])); (repeat (first | exact Sub.refl | exact Sub.nil | apply Sub.emp | (apply Sub.cons; focus ((repeat (first | exact Pick.hd | apply Pick.tl)); done)) | (apply Sub.con; focus ((repeat (first | exact Pick.hd | apply Pick.tl)); done)) | (apply Sub.app; focus ((repeat (first | exact Pick.hd | apply Pick.tl)); done)) | apply Sub.drop)); done)))
      · skip
        simp only [decide_eq_false_iff_not] at g2
        refine Ops.valg rfl (opV_move rfl) rfl ?_
        refine Ops.valg rfl (opV_gtr rfl rfl (by first | exact decide_eq_true (by omega) | exact decide_eq_false (by omega) | rfl)) rfl ?_
        refine Ops.valg rfl (opV_pickF rfl rfl) rfl ?_
        refine Ops.val (opV_pickT rfl rfl) rfl ?_
        refine Ops.val (opV_move rfl) rfl ?_
        refine Ops.cases 41 rfl (fun g3 => ?_) (fun g3 => ?_)
        · skip
          simp only [decide_eq_true_eq] at g3
          refine Ops.valg rfl (opV_move rfl) rfl ?_
          refine Ops.valg rfl (opV_neq rfl rfl (by first | exact decide_eq_true (by omega) | exact decide_eq_false (by omega) | rfl)) rfl ?_
          refine Ops.val (opV_pickT rfl rfl) rfl ?_
          refine Ops.val (opV_move rfl) rfl ?_
          refine Ops.valg rfl (opV_move rfl) rfl ?_
          refine Ops.valg rfl (opV_neq rfl rfl (by first | exact decide_eq_true (by omega) | exact decide_eq_false (by omega) | rfl)) rfl ?_
          refine Ops.val (opV_pickT rfl rfl) rfl ?_
          refine Ops.val (opV_move rfl) rfl ?_
          refine Ops.valg rfl (opV_move rfl) rfl ?_
          refine Ops.valg rfl (opV_neq rfl rfl (by first | exact decide_eq_true (by omega) | exact decide_eq_false (by omega) | rfl)) rfl ?_
          refine Ops.val (opV_pickT rfl rfl) rfl ?_
          refine Ops.nil ?_
          refine Ex.next ?_
          refine Cod.condF rfl ?_
          refine Cod.skip ?_
          refine Ex.blockNormal ?_
          refine Ex.next ?_
          refine Cod.region ?_
          refine Ops.val (opV_add64 rfl rfl (by omega)) rfl ?_
          refine Ops.val (opV_move rfl) rfl ?_
          refine Ops.nil ?_
          refine Ex.toN (fun _ _ hs => ⟨i + 1, (by omega), (by first | omega | (dsimp only; omega) | (simp; omega) | (simp; done)), hs⟩) (by repeat (first | exact trivial | refine ⟨rfl, ?_⟩)) (fun _ h => h.subs (by first | ((repeat (first | exact Sub.refl | exact Sub.nil | apply Sub.emp | (apply Sub.cons; focus ((repeat (first | exact Pick.hd | apply Pick.tl)); done)) | (apply Sub.con; focus ((repeat (first | exact Pick.hd | apply Pick.tl)); done)) | (apply Sub.app; focus ((repeat (first | exact Pick.hd | apply Pick.tl)); done)) | apply Sub.drop)); done) | ((repeat (first | rw [List.append_assoc] | rw [List.cons_append] | rw [List.nil_append] | rw [List.append_nil])); (repeat (first | exact Sub.refl | exact Sub.nil | apply Sub.emp | (apply Sub.cons; focus ((repeat (first | exact Pick.hd | apply Pick.tl)); done)) | (apply Sub.con; focus ((repeat (first | exact Pick.hd | apply Pick.tl)); done)) | (apply Sub.app; focus ((repeat (first | exact Pick.hd | apply Pick.tl)); done)) | apply Sub.drop)); done)))
        · skip
          simp only [decide_eq_false_iff_not] at g3
          refine Ops.skipg rfl rfl ?_
          refine Ops.skipg rfl rfl ?_
          refine Ops.val (opV_pickF rfl rfl) rfl ?_
          refine Ops.val (opV_move rfl) rfl ?_
          refine Ops.skipg rfl rfl ?_
          refine Ops.skipg rfl rfl ?_
          refine Ops.val (opV_pickF rfl rfl) rfl ?_
          refine Ops.val (opV_move rfl) rfl ?_
          refine Ops.skipg rfl rfl ?_
          refine Ops.skipg rfl rfl ?_
          refine Ops.val (opV_pickF rfl rfl) rfl ?_
          refine Ops.nil ?_
          refine Ex.next ?_
          refine Cod.condF rfl ?_
          refine Cod.skip ?_
          refine Ex.blockNormal ?_
          refine Ex.next ?_
          refine Cod.region ?_
          refine Ops.val (opV_add64 rfl rfl (by omega)) rfl ?_
          refine Ops.val (opV_move rfl) rfl ?_
          refine Ops.nil ?_
          refine Ex.toN (fun _ _ hs => ⟨i + 1, (by omega), (by first | omega | (dsimp only; omega) | (simp; omega) | (simp; done)), hs⟩) (by repeat (first | exact trivial | refine ⟨rfl, ?_⟩)) (fun _ h => h.subs (by first | ((repeat (first | exact Sub.refl | exact Sub.nil | apply Sub.emp | (apply Sub.cons; focus ((repeat (first | exact Pick.hd | apply Pick.tl)); done)) | (apply Sub.con; focus ((repeat (first | exact Pick.hd | apply Pick.tl)); done)) | (apply Sub.app; focus ((repeat (first | exact Pick.hd | apply Pick.tl)); done)) | apply Sub.drop)); done) | ((repeat (first | rw [List.append_assoc] | rw [List.cons_append] | rw [List.nil_append] | rw [List.append_nil])); (repeat (first | exact Sub.refl | exact Sub.nil | apply Sub.emp | (apply Sub.cons; focus ((repeat (first | exact Pick.hd | apply Pick.tl)); done)) | (apply Sub.con; focus ((repeat (first | exact Pick.hd | apply Pick.tl)); done)) | (apply Sub.app; focus ((repeat (first | exact Pick.hd | apply Pick.tl)); done)) | apply Sub.drop)); done)))
    · skip
      simp only [decide_eq_false_iff_not] at g1
      refine Ops.valg rfl (opV_move rfl) rfl ?_
      refine Ops.valg rfl (opV_gtr rfl rfl (by first | exact decide_eq_true (by omega) | exact decide_eq_false (by omega) | rfl)) rfl ?_
      refine Ops.val (opV_pickF rfl rfl) rfl ?_
      refine Ops.val (opV_move rfl) rfl ?_
      refine Ops.skipg rfl rfl ?_
      refine Ops.skipg rfl rfl ?_
      refine Ops.skipg rfl rfl ?_
      refine Ops.skipg rfl rfl ?_
      refine Ops.skipg rfl rfl ?_
      refine Ops.skipg rfl rfl ?_
      refine Ops.val (opV_pickF rfl rfl) rfl ?_
      refine Ops.val (opV_move rfl) rfl ?_
      refine Ops.skipg rfl rfl ?_
      refine Ops.skipg rfl rfl ?_
      refine Ops.val (opV_pickF rfl rfl) rfl ?_
      refine Ops.val (opV_move rfl) rfl ?_
      refine Ops.skipg rfl rfl ?_
      refine Ops.skipg rfl rfl ?_
      refine Ops.val (opV_pickF rfl rfl) rfl ?_
      refine Ops.val (opV_move rfl) rfl ?_
      refine Ops.skipg rfl rfl ?_
      refine Ops.skipg rfl rfl ?_
      refine Ops.val (opV_pickF rfl rfl) rfl ?_
      refine Ops.nil ?_
      refine Ex.next ?_
      refine Cod.condF rfl ?_
      refine Cod.skip ?_
      refine Ex.blockNormal ?_
      refine Ex.next ?_
      refine Cod.region ?_
      refine Ops.val (opV_add64 rfl rfl (by omega)) rfl ?_
      refine Ops.val (opV_move rfl) rfl ?_
      refine Ops.nil ?_
      refine Ex.toN (fun _ _ hs => ⟨i + 1, (by omega), (by first | omega | (dsimp only; omega) | (simp; omega) | (simp; done)), hs⟩) (by repeat (first | exact trivial | refine ⟨rfl, ?_⟩)) (fun _ h => h.subs (by first | ((repeat (first | exact Sub.refl | exact Sub.nil | apply Sub.emp | (apply Sub.cons; focus ((repeat (first | exact Pick.hd | apply Pick.tl)); done)) | (apply Sub.con; focus ((repeat (first | exact Pick.hd | apply Pick.tl)); done)) | (apply Sub.app; focus ((repeat (first | exact Pick.hd | apply Pick.tl)); done)) | apply Sub.drop)); done) | ((repeat (first | rw [List.append_assoc] | rw [List.cons_append] | rw [List.nil_append] | rw [List.append_nil])); (repeat (first | exact Sub.refl | exact Sub.nil | apply Sub.emp | (apply Sub.cons; focus ((repeat (first | exact Pick.hd | apply Pick.tl)); done)) | (apply Sub.con; focus ((repeat (first | exact Pick.hd | apply Pick.tl)); done)) | (apply Sub.app; focus ((repeat (first | exact Pick.hd | apply Pick.tl)); done)) | apply Sub.drop)); done)))
  · try simp at hc
    refine Cod.exit ?_
    refine Ex.thenExit ?_
    refine Ex.thenExit ?_
    refine Ex.blockHit ?_
    refine Ex.next ?_
    refine Cod.seq ?_
    refine Cod.region ?_
    refine Ops.val (opV_assign rfl) rfl ?_
    refine Ops.nil ?_
    refine Ex.next ?_
    refine Cod.ret ?_
    exact Ex.ret1 rfl rfl (fun _ h => h.subs (by first | ((repeat (first | exact Sub.refl | exact Sub.nil | apply Sub.emp | (apply Sub.cons; focus ((repeat (first | exact Pick.hd | apply Pick.tl)); done)) | (apply Sub.con; focus ((repeat (first | exact Pick.hd | apply Pick.tl)); done)) | (apply Sub.app; focus ((repeat (first | exact Pick.hd | apply Pick.tl)); done)) | apply Sub.drop)); done) | ((repeat (first | rw [List.append_assoc] | rw [List.cons_append] | rw [List.nil_append] | rw [List.append_nil])); (repeat (first | exact Sub.refl | exact Sub.nil | apply Sub.emp | (apply Sub.cons; focus ((repeat (first | exact Pick.hd | apply Pick.tl)); done)) | (apply Sub.con; focus ((repeat (first | exact Pick.hd | apply Pick.tl)); done)) | (apply Sub.app; focus ((repeat (first | exact Pick.hd | apply Pick.tl)); done)) | apply Sub.drop)); done))) ⟨rfl, rfl⟩
end

/-! ### A disk -/
structure DK where
  files : List (Str × (Str × Str))
  pend : List (Str × Nat × Str)
  room : Int
def usedF (fs : List (Str × (Str × Str))) : Nat := (fs.map fun f => f.2.1.length).sum
def DK.used (D : DK) : Nat := usedF D.files
/-- A file's block: what is read, what of it is safe. -/
def FileP (v : Value) (f : Str × Str) (B : Hp) : Prop :=
  ∃ fb dv sv R1 R2, v = .pointer (some ⟨fb, 0, none⟩) ∧ Row 5 1 dv f.1.length (bcells f.1) R1 ∧ Row 5 1 sv f.2.length (bcells f.2) R2 ∧ B = (fb, .cells #[dv, sv] 163) :: (R1 ++ R2)
abbrev Files (kvs : List (Str × Value)) (fs : List (Str × (Str × Str))) (FA : Hp) : Prop := MapH FileP kvs fs FA
theorem Files.get {e : Ctx} {kvs : List (Str × Value)} {fs : List (Str × (Str × Str))} {FA : Hp} {k : Str} {v : Value} (h : Files kvs fs FA) (hk : lkp k kvs = some v) :
    ∃ fb dv sv data safe R1 R2 FA', v = .pointer (some ⟨fb, 0, none⟩) ∧ lkp k fs = some (data, safe) ∧ Row 5 1 dv data.length (bcells data) R1 ∧ Row 5 1 sv safe.length (bcells safe) R2 ∧
      (∀ w F, Owns e w (FA :: F) → Owns e w ([(fb, .cells #[dv, sv] 163)] :: R1 :: R2 :: FA' :: F)) ∧
      (∀ dv' data' sv' safe' R1' R2', Row 5 1 dv' data'.length (bcells data') R1' → Row 5 1 sv' safe'.length (bcells safe') R2' → Files kvs (ins k (data', safe') fs) ((fb, .cells #[dv', sv'] 163) :: (R1' ++ (R2' ++ FA')))) ∧
      Files (del k kvs) (del k fs) FA' := by
  obtain ⟨⟨data, safe⟩, B, FA', e1, ⟨fb, dv, sv, R1, R2, rfl, h1, h2, rfl⟩, hp, _, k2, k3⟩ := MapH.get h hk
  refine ⟨fb, dv, sv, data, safe, R1, R2, FA', rfl, e1, h1, h2, ?_, ?_, k3⟩
  · intro w F ho
    refine ho.perm ?_
    simpa using hp.append_right F.flatten
  · intro dv' data' sv' safe' R1' R2' h1' h2'
    have := k2 (data', safe') _ ⟨fb, dv', sv', R1', R2', rfl, h1', h2', rfl⟩
    simpa using this
/-- The writes that aren't safe yet. -/
inductive PL (A : Hp) : List Value → List (Str × Nat × Str) → Prop
  | nil : PL A [] []
  | cons {nm d : Str} {at_ : Nat} {dv : Value} {vs : List Value} {ws : List (Str × Nat × Str)} (h : Sl A 1 dv d.length (bcells d)) (t : PL A vs ws) : PL A (S nm :: .int .i64 (at_ : Int) :: dv :: vs) ((nm, at_, d) :: ws)
theorem PL.mono {A B : Hp} {vs : List Value} {ws : List (Str × Nat × Str)} (h : PL A vs ws) (hs : A ⊆ B) : PL B vs ws := by
  induction h with
  | nil => exact .nil
  | cons h _ ih => exact .cons (h.mono hs) ih
theorem PL.snoc {A : Hp} {vs : List Value} {ws : List (Str × Nat × Str)} {nm d : Str} {at_ : Nat} {dv : Value} (h : PL A vs ws) (hv : Sl A 1 dv d.length (bcells d)) : PL A (vs ++ [S nm, .int .i64 (at_ : Int), dv]) (ws ++ [(nm, at_, d)]) := by
  induction h with
  | nil => exact .cons hv .nil
  | cons h _ ih => exact .cons h ih
theorem PL.get {A : Hp} {vs : List Value} {ws : List (Str × Nat × Str)} (h : PL A vs ws) {i : Nat} {nm d : Str} {at_ : Nat} (hd : ws[i]? = some (nm, at_, d)) : ∃ dv, (vs.drop (i * 3)).take 3 = [S nm, .int .i64 (at_ : Int), dv] ∧ Sl A 1 dv d.length (bcells d) := by
  induction h generalizing i with
  | nil => cases hd
  | cons h _ ih =>
    cases i with
    | zero => cases hd; exact ⟨_, rfl, h⟩
    | succ i =>
      obtain ⟨dv, h1, h2⟩ := ih hd
      exact ⟨dv, by rw [← h1, show (i + 1) * 3 = i * 3 + 3 by omega]; rfl, h2⟩
def DiskA (p : Nat) (D : DK) (A : Hp) : Prop :=
  ∃ mb ob pv ps FA PR PA kvs, MapO (κ := Str) kvs ob ∧ Files kvs D.files FA ∧ Row 166 3 pv D.pend.length ps PR ∧ PL PA ps D.pend ∧
    A = (p, .cells #[.map (some mb), pv, .int .i64 D.room, .int .i64 (D.used : Int)] 144) :: (mb, ob) :: (FA ++ (PR ++ PA))
theorem Owns.disk {e : Ctx} {w : World} {x y : Nat × Obj} {FA PR PA : Hp} {F : List Hp} (h : Owns e w ((x :: y :: (FA ++ (PR ++ PA))) :: F)) : Owns e w ([x] :: [y] :: PR :: PA :: FA :: F) := by
  refine h.perm ?_
  simp only [List.flatten_cons, List.cons_append, List.nil_append, List.append_assoc]
  refine .cons _ (.cons _ ?_)
  rw [← List.append_assoc PR, ← List.append_assoc FA, ← List.append_assoc PR, ← List.append_assoc (PR ++ PA)]
  exact List.perm_append_comm.append_right _
section
variable {e : Ctx} {w : World} {As F : List Hp} {A B : Hp} {p : Nat} {nm b : Str} {v : Value} {D : DK}
theorem usedF_ins {d s d' s' : Str} : ∀ {fs : List (Str × (Str × Str))}, lkp nm fs = some (d, s) → usedF (ins nm (d', s') fs) + d.length = usedF fs + d'.length
  | [], h => by cases h
  | (k1, v1) :: fs, h => by
    by_cases h1 : k1 = nm
    · simp [lkp, h1] at h; subst h; simp [ins, h1, usedF]; omega
    · simp [lkp, h1] at h
      have := usedF_ins (d' := d') (s' := s') h
      simp [ins, h1, usedF] at this ⊢; omega
theorem usedF_new {d' s' : Str} {fs : List (Str × (Str × Str))} (h : lkp nm fs = none) : usedF (ins nm (d', s') fs) = usedF fs + d'.length := by
  rw [keys_ins_new h]; simp [usedF]
theorem usedF_le {d s : Str} : ∀ {fs : List (Str × (Str × Str))}, lkp nm fs = some (d, s) → d.length ≤ usedF fs := by
  intro fs h
  have := usedF_ins (d' := []) (s' := []) h
  simp at this; omega

theorem used_spec (hw : Owns e w As) (hA : Has e As A) (hD : DiskA p D A) : Calls Tryz.prog 14 #[.pointer (some ⟨p, 0, none⟩)] w (Ret e fun u Bs => u = .int .i64 (D.used : Int) ∧ Bs = As) := by
  obtain ⟨mb, ob, pv, ps, FA, PR, PA, kvs, hM, hF, hR, hP, rfl⟩ := hD
  refine enter Tryz.func14 rfl Tryz.ntmps14 hw rfl ?_
  refine Cod.seq ?_
  refine Cod.region ?_
  refine Ops.val (opV_assign rfl) rfl ?_
  refine Ops.nil ?_
  refine Ex.next ?_
  refine Cod.seq ?_
  refine Cod.region ?_
  refine Ops.val (opV_move rfl) rfl ?_
  refine Ops.val (opV_nil rfl) rfl ?_
  refine Ops.val (opV_field Fx.fld_144_3 rfl) rfl ?_
  refine Ops.val (opV_load Fx.scal_3 rfl (cellOf hA (List.Mem.head _) rfl)) rfl ?_
  refine Ops.val (opV_assign rfl) rfl ?_
  refine Ops.nil ?_
  refine Ex.next ?_
  refine Cod.ret ?_
  exact Ex.ret1 rfl rfl (fun _ h => h.subs (by first | ((repeat (first | exact Sub.refl | exact Sub.nil | apply Sub.emp | (apply Sub.cons; focus ((repeat (first | exact Pick.hd | apply Pick.tl)); done)) | (apply Sub.con; focus ((repeat (first | exact Pick.hd | apply Pick.tl)); done)) | (apply Sub.app; focus ((repeat (first | exact Pick.hd | apply Pick.tl)); done)) | apply Sub.drop)); done) | ((repeat (first | rw [List.append_assoc] | rw [List.cons_append] | rw [List.nil_append] | rw [List.append_nil])); (repeat (first | exact Sub.refl | exact Sub.nil | apply Sub.emp | (apply Sub.cons; focus ((repeat (first | exact Pick.hd | apply Pick.tl)); done)) | (apply Sub.con; focus ((repeat (first | exact Pick.hd | apply Pick.tl)); done)) | (apply Sub.app; focus ((repeat (first | exact Pick.hd | apply Pick.tl)); done)) | apply Sub.drop)); done))) ⟨rfl, rfl⟩

theorem append_full {m : Nat} (hm : m = b.length) (hg : good nm) (hu : D.used ≤ 1000000000) (_hb : b.length ≤ 1000000000) (hf : D.room < (D.used : Int) ∨ D.room - (D.used : Int) < b.length) (hr : D.room ≤ 9223372036854775807 ∧ -9223372036854775808 ≤ D.room) (hw : Owns e w As) (hA : Has e As A) (hD : DiskA p D A) (hv : Sl B 1 v m (bcells b)) :
    Calls Tryz.prog 206 #[.pointer (some ⟨p, 0, none⟩), S nm, v] w (Ret e fun u Bs => u = .int .i64 6 ∧ Bs = As) := by
  subst hm
  obtain ⟨mb, ob, pv, ps, FA, PR, PA, kvs, hM, hF, hR, hP, rfl⟩ := hD
  refine enter Tryz.func206 rfl Tryz.ntmps206 hw rfl ?_
  refine Cod.seq ?_
  refine Cod.region ?_
  refine Ops.val (opV_assign rfl) rfl ?_
  refine Ops.nil ?_
  refine Ex.next ?_
  refine Cod.seq ?_
  refine Cod.block ?_
  refine Cod.seq ?_
  refine Cod.region ?_
  refine Ops.val (opV_move rfl) rfl ?_
  refine Ops.call rfl (opC_call Fx.cal_74 rfl (fun w hw => goodName hg hw)) rfl ?_
  rintro v10 _ ⟨rfl, rfl⟩
  refine Ops.val (opV_not rfl) rfl ?_
  refine Ops.val (opV_assign rfl) rfl ?_
  refine Ops.nil ?_
  refine Ex.next ?_
  refine Cod.condF rfl ?_
  refine Cod.seq ?_
  refine Cod.draw0 [3, 7, 15, 19] [0, 1, 2, 4, 5, 6, 8, 9, 10, 11, 12, 13, 14, 16, 17, 18, 20, 21, 22, 23] [0, 1, 2, 3, 4, 5, 6, 7, 8, 9, 10, 11, 12, 13, 14, 15, 16, 17, 18, 19, 20, 21, 22, 23] M.mixed (by kernel_rfl) ?_
  refine AnyJ.valU rfl rfl rfl (opV_move rfl) rfl (fun _ _ _ h => h.2.elim) ?_
  refine AnyJ.valU rfl rfl rfl (opV_nil rfl) rfl (fun _ _ _ h => h.2.elim) ?_
  refine AnyJ.valU rfl rfl rfl (opV_field Fx.fld_144_2 rfl) rfl (fun _ _ _ h => h.2.elim) ?_
  refine AnyJ.val rfl rfl (opV_load Fx.scal_3 rfl (cellOf hA (List.Mem.head _) rfl)) rfl (fun _ _ _ h => h.2.elim) (fun _ h => h) ?_
  refine AnyJ.valU rfl rfl rfl (opV_move rfl) rfl (fun _ _ _ h => h.2.elim) ?_
  refine AnyJ.valU rfl rfl rfl (opV_nil rfl) rfl (fun _ _ _ h => h.2.elim) ?_
  refine AnyJ.valU rfl rfl rfl (opV_field Fx.fld_144_3 rfl) rfl (fun _ _ _ h => h.2.elim) ?_
  refine AnyJ.val rfl rfl (opV_load Fx.scal_3 rfl (cellOf hA (List.Mem.head _) rfl)) rfl (fun _ _ _ h => h.2.elim) (fun _ h => h) ?_
  refine AnyJ.valU rfl rfl rfl (opV_lss rfl rfl (by first | exact decide_eq_true (by omega) | exact decide_eq_false (by omega) | rfl)) rfl (fun _ _ _ h => h.2.elim) ?_
  refine AnyJ.valU rfl rfl rfl (opV_move rfl) rfl (fun _ _ _ h => h.2.elim) ?_
  refine AnyJ.cases 22 rfl (fun h1 => ?_) (fun h1 => ?_)
  · skip
    refine AnyJ.skip rfl rfl rfl (fun _ _ _ h => h.2.elim) (fun h => nomatch h) ?_
    refine AnyJ.skip rfl rfl rfl (fun _ _ _ h => h.2.elim) (fun h => nomatch h) ?_
    refine AnyJ.skip rfl rfl rfl (fun _ _ _ h => h.2.elim) (fun h => nomatch h) ?_
    refine AnyJ.skip rfl rfl rfl (fun _ _ _ h => h.2.elim) (fun h => nomatch h) ?_
    refine AnyJ.skip rfl rfl rfl (fun _ _ _ h => h.2.elim) (fun h => nomatch h) ?_
    refine AnyJ.skip rfl rfl rfl (fun _ _ _ h => h.2.elim) (fun _ => (fun _ h => h)) ?_
    refine AnyJ.skip rfl rfl rfl (fun _ _ _ h => h.2.elim) (fun h => nomatch h) ?_
    refine AnyJ.skip rfl rfl rfl (fun _ _ _ h => h.2.elim) (fun h => nomatch h) ?_
    refine AnyJ.skip rfl rfl rfl (fun _ _ _ h => h.2.elim) (fun h => nomatch h) ?_
    refine AnyJ.skip rfl rfl rfl (fun _ _ _ h => h.2.elim) (fun _ => (fun _ h => h)) ?_
    refine AnyJ.skip rfl rfl rfl (fun _ _ _ h => h.2.elim) (fun h => nomatch h) ?_
    refine AnyJ.skip rfl rfl rfl (fun _ _ _ h => h.2.elim) (fun h => nomatch h) ?_
    refine AnyJ.valU rfl rfl rfl (opV_pickT rfl rfl) rfl (fun _ _ _ h => h.2.elim) ?_
    refine AnyJ.valU rfl rfl rfl (opV_assign rfl) rfl (fun _ _ _ h => h.2.elim) ?_
    refine AnyJ.nil ?_
    refine Ex.next ?_
    refine Cod.condT rfl ?_
    refine Cod.seq ?_
    refine Cod.region ?_
    refine Ops.val (opV_assign rfl) rfl ?_
    refine Ops.nil ?_
    refine Ex.next ?_
    refine Cod.ret ?_
    refine Ex.blockRet ?_
    refine Ex.thenRet ?_
    exact Ex.ret1 rfl rfl (fun _ h => h.subs (by first | ((repeat (first | exact Sub.refl | exact Sub.nil | apply Sub.emp | (apply Sub.cons; focus ((repeat (first | exact Pick.hd | apply Pick.tl)); done)) | (apply Sub.con; focus ((repeat (first | exact Pick.hd | apply Pick.tl)); done)) | (apply Sub.app; focus ((repeat (first | exact Pick.hd | apply Pick.tl)); done)) | apply Sub.drop)); done) | ((repeat (first | rw [List.append_assoc] | rw [List.cons_append] | rw [List.nil_append] | rw [List.append_nil])); (repeat (first | exact Sub.refl | exact Sub.nil | apply Sub.emp | (apply Sub.cons; focus ((repeat (first | exact Pick.hd | apply Pick.tl)); done)) | (apply Sub.con; focus ((repeat (first | exact Pick.hd | apply Pick.tl)); done)) | (apply Sub.app; focus ((repeat (first | exact Pick.hd | apply Pick.tl)); done)) | apply Sub.drop)); done))) ⟨rfl, rfl⟩
  · skip
    simp only [decide_eq_false_iff_not] at h1
    refine AnyJ.valU rfl rfl rfl (opV_move rfl) rfl (fun _ _ _ h => h.2.elim) ?_
    refine AnyJ.valU rfl rfl rfl (opV_len Fx.sl_29 rfl hv.isSlice) rfl (fun _ _ _ h => h.2.elim) ?_
    refine AnyJ.valU rfl rfl rfl (opV_move rfl) rfl (fun _ _ _ h => h.2.elim) ?_
    refine AnyJ.valU rfl rfl rfl (opV_nil rfl) rfl (fun _ _ _ h => h.2.elim) ?_
    refine AnyJ.valU rfl rfl rfl (opV_field Fx.fld_144_2 rfl) rfl (fun _ _ _ h => h.2.elim) ?_
    refine AnyJ.val rfl rfl (opV_load Fx.scal_3 rfl (cellOf hA (List.Mem.head _) rfl)) rfl (fun _ _ _ h => h.2.elim) (fun _ h => h) ?_
    refine AnyJ.valU rfl rfl rfl (opV_move rfl) rfl (fun _ _ _ h => h.2.elim) ?_
    refine AnyJ.valU rfl rfl rfl (opV_nil rfl) rfl (fun _ _ _ h => h.2.elim) ?_
    refine AnyJ.valU rfl rfl rfl (opV_field Fx.fld_144_3 rfl) rfl (fun _ _ _ h => h.2.elim) ?_
    refine AnyJ.val rfl rfl (opV_load Fx.scal_3 rfl (cellOf hA (List.Mem.head _) rfl)) rfl (fun _ _ _ h => h.2.elim) (fun _ h => h) ?_
    refine AnyJ.valU rfl rfl rfl (opV_sub64 rfl rfl (by omega)) rfl (fun _ _ _ h => h.2.elim) ?_
    refine AnyJ.valU rfl rfl rfl (opV_gtr rfl rfl (by first | exact decide_eq_true (by omega) | exact decide_eq_false (by omega) | rfl)) rfl (fun _ _ _ h => h.2.elim) ?_
    refine AnyJ.valU rfl rfl rfl (opV_pickF rfl rfl) rfl (fun _ _ _ h => h.2.elim) ?_
    refine AnyJ.valU rfl rfl rfl (opV_assign rfl) rfl (fun _ _ _ h => h.2.elim) ?_
    refine AnyJ.nil ?_
    refine Ex.next ?_
    refine Cod.condT rfl ?_
    refine Cod.seq ?_
    refine Cod.region ?_
    refine Ops.val (opV_assign rfl) rfl ?_
    refine Ops.nil ?_
    refine Ex.next ?_
    refine Cod.ret ?_
    refine Ex.blockRet ?_
    refine Ex.thenRet ?_
    exact Ex.ret1 rfl rfl (fun _ h => h.subs (by first | ((repeat (first | exact Sub.refl | exact Sub.nil | apply Sub.emp | (apply Sub.cons; focus ((repeat (first | exact Pick.hd | apply Pick.tl)); done)) | (apply Sub.con; focus ((repeat (first | exact Pick.hd | apply Pick.tl)); done)) | (apply Sub.app; focus ((repeat (first | exact Pick.hd | apply Pick.tl)); done)) | apply Sub.drop)); done) | ((repeat (first | rw [List.append_assoc] | rw [List.cons_append] | rw [List.nil_append] | rw [List.append_nil])); (repeat (first | exact Sub.refl | exact Sub.nil | apply Sub.emp | (apply Sub.cons; focus ((repeat (first | exact Pick.hd | apply Pick.tl)); done)) | (apply Sub.con; focus ((repeat (first | exact Pick.hd | apply Pick.tl)); done)) | (apply Sub.app; focus ((repeat (first | exact Pick.hd | apply Pick.tl)); done)) | apply Sub.drop)); done))) ⟨rfl, rfl⟩

theorem Files.kv {kvs : List (Str × Value)} {fs : List (Str × (Str × Str))} {FA : Hp} {x : Str × Str} (h : Files kvs fs FA) (hk : lkp nm fs = some x) : ∃ v, lkp nm kvs = some v := by
  cases hq : lkp nm kvs with
  | none => rw [(MapH.none_iff h).1 hq] at hk; cases hk
  | some v => exact ⟨v, rfl⟩
def DK.append (D : DK) (nm b : Str) : DK :=
  match lkp nm D.files with
  | some (d, s) => { D with files := ins nm (d ++ b, s) D.files, pend := D.pend ++ [(nm, d.length, b)] }
  | none => { D with files := ins nm (b, []) D.files, pend := D.pend ++ [(nm, 0, b)] }
theorem append_old {m : Nat} {d s : Str} (hm : m = b.length) (hk : lkp nm D.files = some (d, s)) (hg : good nm) (hu : D.used ≤ 1000000000) (hn : D.pend.length ≤ 100000000) (hb : b.length ≤ 1000000000) (hf : (D.used : Int) + b.length ≤ D.room) (hr : D.room ≤ 9223372036854775807)
    (hw : Owns e w As) (hp : Pick As A F) (hB : Has e F B) (hD : DiskA p D A) (hv : Sl B 1 v m (bcells b)) :
    Calls Tryz.prog 206 #[.pointer (some ⟨p, 0, none⟩), S nm, v] w (Ret e fun u Bs => u = .int .i64 0 ∧ ∃ A', DiskA p (D.append nm b) A' ∧ Bs = A' :: F) := by
  subst hm
  obtain ⟨mb, ob, pv, ps, FA, PR, PA, kvs, hM, hF, hR, hP, rfl⟩ := hD
  obtain ⟨fv, hkv⟩ := hF.kv hk
  obtain ⟨fb, dv, sv, data, safe, R1, R2, FA', rfl, hk', hd, hs, hown, hput, _⟩ := hF.get hkv
  rw [hk'] at hk
  cases hk
  have hdu := usedF_le hk'
  have hdu' : d.length ≤ D.used := hdu
  refine enter Tryz.func206 rfl Tryz.ntmps206 (hown _ _ ((Owns.disk (hw.pick hp)).pick (.tl (.tl (.tl (.tl .hd)))))) rfl ?_
  refine Cod.seq ?_
  refine Cod.region ?_
  refine Ops.val (opV_assign rfl) rfl ?_
  refine Ops.nil ?_
  refine Ex.next ?_
  refine Cod.seq ?_
  refine Cod.block ?_
  refine Cod.seq ?_
  refine Cod.region ?_
  refine Ops.val (opV_move rfl) rfl ?_
  refine Ops.call rfl (opC_call Fx.cal_74 rfl (fun w hw => goodName hg hw)) rfl ?_
  rintro v10 _ ⟨rfl, rfl⟩
  refine Ops.val (opV_not rfl) rfl ?_
  refine Ops.val (opV_assign rfl) rfl ?_
  refine Ops.nil ?_
  refine Ex.next ?_
  refine Cod.condF rfl ?_
  refine Cod.seq ?_
  refine Cod.draw0 [3, 7, 15, 19] [0, 1, 2, 4, 5, 6, 8, 9, 10, 11, 12, 13, 14, 16, 17, 18, 20, 21, 22, 23] [0, 1, 2, 3, 4, 5, 6, 7, 8, 9, 10, 11, 12, 13, 14, 15, 16, 17, 18, 19, 20, 21, 22, 23] M.mixed (by kernel_rfl) ?_
  refine AnyJ.valU rfl rfl rfl (opV_move rfl) rfl (fun _ _ _ h => h.2.elim) ?_
  refine AnyJ.valU rfl rfl rfl (opV_nil rfl) rfl (fun _ _ _ h => h.2.elim) ?_
  refine AnyJ.valU rfl rfl rfl (opV_field Fx.fld_144_2 rfl) rfl (fun _ _ _ h => h.2.elim) ?_
  refine AnyJ.val rfl rfl (opV_load Fx.scal_3 rfl (by repeat (first | exact Cell.one rfl | assumption | apply Cell.tl))) rfl (fun _ _ _ h => h.2.elim) (fun _ h => h) ?_
  refine AnyJ.valU rfl rfl rfl (opV_move rfl) rfl (fun _ _ _ h => h.2.elim) ?_
  refine AnyJ.valU rfl rfl rfl (opV_nil rfl) rfl (fun _ _ _ h => h.2.elim) ?_
  refine AnyJ.valU rfl rfl rfl (opV_field Fx.fld_144_3 rfl) rfl (fun _ _ _ h => h.2.elim) ?_
  refine AnyJ.val rfl rfl (opV_load Fx.scal_3 rfl (by repeat (first | exact Cell.one rfl | assumption | apply Cell.tl))) rfl (fun _ _ _ h => h.2.elim) (fun _ h => h) ?_
  refine AnyJ.valU rfl rfl rfl (opV_lss rfl rfl (by first | exact decide_eq_true (by omega) | exact decide_eq_false (by omega) | rfl)) rfl (fun _ _ _ h => h.2.elim) ?_
  refine AnyJ.valU rfl rfl rfl (opV_move rfl) rfl (fun _ _ _ h => h.2.elim) ?_
  refine AnyJ.valU rfl rfl rfl (opV_move rfl) rfl (fun _ _ _ h => h.2.elim) ?_
  refine AnyJ.valU rfl rfl rfl (opV_len Fx.sl_29 rfl hv.isSlice) rfl (fun _ _ _ h => h.2.elim) ?_
  refine AnyJ.valU rfl rfl rfl (opV_move rfl) rfl (fun _ _ _ h => h.2.elim) ?_
  refine AnyJ.valU rfl rfl rfl (opV_nil rfl) rfl (fun _ _ _ h => h.2.elim) ?_
  refine AnyJ.valU rfl rfl rfl (opV_field Fx.fld_144_2 rfl) rfl (fun _ _ _ h => h.2.elim) ?_
  refine AnyJ.val rfl rfl (opV_load Fx.scal_3 rfl (by repeat (first | exact Cell.one rfl | assumption | apply Cell.tl))) rfl (fun _ _ _ h => h.2.elim) (fun _ h => h) ?_
  refine AnyJ.valU rfl rfl rfl (opV_move rfl) rfl (fun _ _ _ h => h.2.elim) ?_
  refine AnyJ.valU rfl rfl rfl (opV_nil rfl) rfl (fun _ _ _ h => h.2.elim) ?_
  refine AnyJ.valU rfl rfl rfl (opV_field Fx.fld_144_3 rfl) rfl (fun _ _ _ h => h.2.elim) ?_
  refine AnyJ.val rfl rfl (opV_load Fx.scal_3 rfl (by repeat (first | exact Cell.one rfl | assumption | apply Cell.tl))) rfl (fun _ _ _ h => h.2.elim) (fun _ h => h) ?_
  refine AnyJ.valU rfl rfl rfl (opV_sub64 rfl rfl (by omega)) rfl (fun _ _ _ h => h.2.elim) ?_
  refine AnyJ.valU rfl rfl rfl (opV_gtr rfl rfl (by first | exact decide_eq_true (by omega) | exact decide_eq_false (by omega) | rfl)) rfl (fun _ _ _ h => h.2.elim) ?_
  refine AnyJ.valU rfl rfl rfl (opV_pickF rfl rfl) rfl (fun _ _ _ h => h.2.elim) ?_
  refine AnyJ.valU rfl rfl rfl (opV_assign rfl) rfl (fun _ _ _ h => h.2.elim) ?_
  refine AnyJ.nil ?_
  refine Ex.next ?_
  refine Cod.condF rfl ?_
  refine Cod.skip ?_
  refine Ex.blockNormal ?_
  refine Ex.next ?_
  refine Cod.seq ?_
  refine Cod.region ?_
  refine Ops.val (opV_move rfl) rfl ?_
  refine Ops.val (opV_nil rfl) rfl ?_
  refine Ops.val (opV_field Fx.fld_144_0 rfl) rfl ?_
  refine Ops.val (opV_load Fx.scal_141 rfl (by repeat (first | exact Cell.one rfl | assumption | apply Cell.tl))) rfl ?_
  refine Ops.val (opV_move rfl) rfl ?_
  refine Ops.val (opV_lookup (κ := Str) Fx.map_141 rfl rfl (.mem (by repeat (first | exact List.Mem.head _ | apply List.Mem.tail))) (List.Mem.head _) hM) rfl ?_
  rw [hkv]
  refine Ops.val (opV_assign rfl) rfl ?_
  refine Ops.nil ?_
  refine Ex.next ?_
  refine Cod.seq ?_
  refine Cod.seq ?_
  refine Cod.region ?_
  refine Ops.val (opV_move rfl) rfl ?_
  refine Ops.val (opV_ptrnil Fx.ptr_161 rfl rfl rfl) rfl ?_
  refine Ops.nil ?_
  refine Ex.next ?_
  refine Cod.condF rfl ?_
  refine Cod.skip ?_
  refine Ex.next ?_
  refine Cod.seq ?_
  refine Cod.draw [4, 9] [0, 1, 2, 3, 5, 6, 7, 8, 10, 11, 13, 16, 17] ([(p, .cells #[.map (some mb), pv, .int .i64 D.room, .int .i64 (D.used : Int)] 144)] :: [(fb, .cells #[dv, sv] 163)] :: []) [0, 1, 2, 3, 4, 5, 6, 7, 8, 9, 10, 11, 12, 13, 14, 15, 16, 17, 18] M.mixed (by kernel_rfl) ?_
  refine AnyJ.valU rfl rfl rfl (opV_move rfl) rfl (fun _ _ _ h => h.2.elim) ?_
  refine AnyJ.valU rfl rfl rfl (opV_move rfl) rfl (fun _ _ _ h => h.2.elim) ?_
  refine AnyJ.valU rfl rfl rfl (opV_nil rfl) rfl (fun _ _ _ h => h.2.elim) ?_
  refine AnyJ.valU rfl rfl rfl (opV_field Fx.fld_144_1 rfl) rfl (fun _ _ _ h => h.2.elim) ?_
  refine AnyJ.val rfl rfl (opV_load Fx.scal_142 rfl (by repeat (first | exact Cell.one rfl | assumption | apply Cell.tl))) rfl (fun _ _ _ h => h.2.elim) (fun _ h => h.subs (by first | ((repeat (first | exact Sub.refl | exact Sub.nil | apply Sub.emp | (apply Sub.cons; focus ((repeat (first | exact Pick.hd | apply Pick.tl)); done)) | (apply Sub.con; focus ((repeat (first | exact Pick.hd | apply Pick.tl)); done)) | (apply Sub.app; focus ((repeat (first | exact Pick.hd | apply Pick.tl)); done)) | apply Sub.drop)); done) | ((repeat (first | rw [List.append_assoc] | rw [List.cons_append] | rw [List.nil_append] | rw [List.append_nil])); (repeat (first | exact Sub.refl | exact Sub.nil | apply Sub.emp | (apply Sub.cons; focus ((repeat (first | exact Pick.hd | apply Pick.tl)); done)) | (apply Sub.con; focus ((repeat (first | exact Pick.hd | apply Pick.tl)); done)) | (apply Sub.app; focus ((repeat (first | exact Pick.hd | apply Pick.tl)); done)) | apply Sub.drop)); done))) ?_
  refine AnyJ.valU rfl rfl rfl (opV_move rfl) rfl (fun _ _ _ h => h.2.elim) ?_
  refine AnyJ.valU rfl rfl rfl (opV_move rfl) rfl (fun _ _ _ h => h.2.elim) ?_
  refine AnyJ.valU rfl rfl rfl (opV_nil rfl) rfl (fun _ _ _ h => h.2.elim) ?_
  refine AnyJ.valU rfl rfl rfl (opV_field Fx.fld_163_0 rfl) rfl (fun _ _ _ h => h.2.elim) ?_
  refine AnyJ.val rfl rfl (opV_load Fx.scal_29 rfl (by repeat (first | exact Cell.one rfl | assumption | apply Cell.tl))) rfl (fun _ _ _ h => h.2.elim) (fun _ h => h.subs (by first | ((repeat (first | exact Sub.refl | exact Sub.nil | apply Sub.emp | (apply Sub.cons; focus ((repeat (first | exact Pick.hd | apply Pick.tl)); done)) | (apply Sub.con; focus ((repeat (first | exact Pick.hd | apply Pick.tl)); done)) | (apply Sub.app; focus ((repeat (first | exact Pick.hd | apply Pick.tl)); done)) | apply Sub.drop)); done) | ((repeat (first | rw [List.append_assoc] | rw [List.cons_append] | rw [List.nil_append] | rw [List.append_nil])); (repeat (first | exact Sub.refl | exact Sub.nil | apply Sub.emp | (apply Sub.cons; focus ((repeat (first | exact Pick.hd | apply Pick.tl)); done)) | (apply Sub.con; focus ((repeat (first | exact Pick.hd | apply Pick.tl)); done)) | (apply Sub.app; focus ((repeat (first | exact Pick.hd | apply Pick.tl)); done)) | apply Sub.drop)); done))) ?_
  refine AnyJ.valU rfl rfl rfl (opV_len Fx.sl_29 rfl (by first | exact ⟨_, _, rfl⟩ | exact Sl.isSlice (by assumption) | exact (Row.sl (by assumption)).isSlice)) rfl (fun _ _ _ h => h.2.elim) ?_
  refine AnyJ.valU rfl rfl rfl (opV_move rfl) rfl (fun _ _ _ h => h.2.elim) ?_
  refine AnyJ.call rfl rfl (opC_call Fx.cal_61 rfl (fun w hw => clone_bytes hw hv (by repeat (first | assumption | apply Has.up)) (bcells_one _) (by omega) (by omega))) rfl ?_
  rintro v64 _ ⟨A64, hA64, rfl⟩
  refine ⟨(by first | (intro _ _ h; refine h.subs ?_; (repeat (first | exact Sub.refl | exact Sub.nil | apply Sub.emp | (apply Sub.cons; focus ((repeat (first | exact Pick.hd | apply Pick.tl)); done)) | (apply Sub.con; focus ((repeat (first | exact Pick.hd | apply Pick.tl)); done)) | (apply Sub.app; focus ((repeat (first | exact Pick.hd | apply Pick.tl)); done)) | apply Sub.drop)); done) | exact lead_no (by kernel_rfl)), ?_⟩
  obtain ⟨a64, c64, rfl⟩ := hA64.isSlice
  refine AnyJ.valU rfl rfl rfl (opV_build Fx.st_166 rfl (by first | (simp [fillL, vcells, putAt]; rfl) | (simp [fillL, vcells, putAt]; done) | rfl)) rfl (fun _ _ _ h => h.2.elim) ?_
  refine AnyJ.eff rfl rfl (opE_buildSlice Fx.sl_142 rfl rfl (by first | (simp [fillL, rowCells, vcells, putAt]; rfl) | (simp [fillL, rowCells, vcells, putAt]; done) | rfl)) rfl ?_
  rintro _ _ ⟨b66, rfl, rfl⟩
  refine ⟨(by first | (intro _ _ h; refine h.subs ?_; (repeat (first | exact Sub.refl | exact Sub.nil | apply Sub.emp | (apply Sub.cons; focus ((repeat (first | exact Pick.hd | apply Pick.tl)); done)) | (apply Sub.con; focus ((repeat (first | exact Pick.hd | apply Pick.tl)); done)) | (apply Sub.app; focus ((repeat (first | exact Pick.hd | apply Pick.tl)); done)) | apply Sub.drop)); done) | exact lead_no (by kernel_rfl)), ?_⟩
  refine AnyJ.eff rfl rfl (opE_append Fx.sl_142 rfl Fx.ni_142 rfl rfl (by repeat (first | exact Pick.hd | apply Pick.tl)) hR (one_src (.mem (by repeat (first | exact List.Mem.head _ | apply List.Mem.tail))) rfl (by simp [Value.oneCell'])) (by omega) (by simp [maxLen]; omega)) rfl ?_
  rintro v67 _ ⟨A67, hA67, rfl⟩
  refine ⟨(by first | (intro _ _ h; refine h.subs ?_; (repeat (first | exact Sub.refl | exact Sub.nil | apply Sub.emp | (apply Sub.cons; focus ((repeat (first | exact Pick.hd | apply Pick.tl)); done)) | (apply Sub.con; focus ((repeat (first | exact Pick.hd | apply Pick.tl)); done)) | (apply Sub.app; focus ((repeat (first | exact Pick.hd | apply Pick.tl)); done)) | apply Sub.drop)); done) | exact lead_no (by kernel_rfl)), ?_⟩
  refine AnyJ.valU rfl rfl rfl (opV_nil rfl) rfl (fun _ _ _ h => h.2.elim) ?_
  refine AnyJ.valU rfl rfl rfl (opV_field Fx.fld_144_1 rfl) rfl (fun _ _ _ h => h.2.elim) ?_
  refine AnyJ.st rfl rfl (opS_store Fx.scal_142 Fx.sz1_142 rfl rfl (by first | rfl | assumption | exact Row.one (by assumption) | exact Sl.one (by assumption)) rfl (by repeat (first | exact Upd.hd | apply Upd.tl)) (by repeat (first | exact LSet.hd | apply LSet.tl))) (by first | (intro _ _ h; refine h.subs ?_; (repeat (first | exact Sub.refl | exact Sub.nil | apply Sub.emp | (apply Sub.cons; focus ((repeat (first | exact Pick.hd | apply Pick.tl)); done)) | (apply Sub.con; focus ((repeat (first | exact Pick.hd | apply Pick.tl)); done)) | (apply Sub.app; focus ((repeat (first | exact Pick.hd | apply Pick.tl)); done)) | apply Sub.drop)); done) | exact lead_no (by kernel_rfl)) ?_
  refine AnyJ.nil ?_
  refine Ex.next ?_
  refine Cod.seq ?_
  refine Cod.region ?_
  refine Ops.val (opV_move rfl) rfl ?_
  refine Ops.val (opV_move rfl) rfl ?_
  refine Ops.val (opV_nil rfl) rfl ?_
  refine Ops.val (opV_field Fx.fld_163_0 rfl) rfl ?_
  refine Ops.val (opV_load Fx.scal_29 rfl (by repeat (first | exact Cell.one rfl | assumption | apply Cell.tl))) rfl ?_
  refine Ops.val (opV_move rfl) rfl ?_
  refine Ops.eff rfl (opE_append Fx.sl_29 rfl Fx.ni_29 rfl rfl (by repeat (first | exact Pick.hd | apply Pick.tl)) hd (hv.src (by repeat (first | assumption | apply Has.up)) (bcells_one _)) (by omega) (by simp [maxLen]; omega)) rfl ?_
  rintro v76 _ ⟨A76, hA76, rfl⟩
  refine Ops.val (opV_nil rfl) rfl ?_
  refine Ops.val (opV_field Fx.fld_163_0 rfl) rfl ?_
  refine Ops.st rfl (opS_store Fx.scal_29 Fx.sz1_29 rfl rfl (by first | rfl | assumption | exact Row.one (by assumption) | exact Sl.one (by assumption)) rfl (by repeat (first | exact Upd.hd | apply Upd.tl)) (by repeat (first | exact LSet.hd | apply LSet.tl))) ?_
  refine Ops.nil ?_
  refine Ex.next ?_
  refine Cod.seq ?_
  refine Cod.region ?_
  refine Ops.val (opV_move rfl) rfl ?_
  refine Ops.val (opV_nil rfl) rfl ?_
  refine Ops.val (opV_field Fx.fld_144_3 rfl) rfl ?_
  refine Ops.val (opV_load Fx.scal_3 rfl (by repeat (first | exact Cell.one rfl | assumption | apply Cell.tl))) rfl ?_
  refine Ops.val (opV_move rfl) rfl ?_
  refine Ops.val (opV_len Fx.sl_29 rfl hv.isSlice) rfl ?_
  have hap : D.append nm b = { D with files := ins nm (d ++ b, s) D.files, pend := D.pend ++ [(nm, d.length, b)] } := by simp [DK.append, hk']
  have hus : (((D.append nm b).used : Nat) : Int) = (D.used : Int) + (b.length : Int) := by
      rw [hap]
      have := usedF_ins (d' := d ++ b) (s' := s) hk'
      simp only [DK.used, List.length_append] at this ⊢
      omega
  have hfin := hput v76 (d ++ b) sv s A76 R2 (by simpa [bcells_append] using hA76) hs
  refine Ops.val (opV_add64 rfl rfl (by omega)) rfl ?_
  rw [← hus]
  rw [hap]
  refine Ops.val (opV_nil rfl) rfl ?_
  refine Ops.val (opV_field Fx.fld_144_3 rfl) rfl ?_
  refine Ops.st rfl (opS_store Fx.scal_3 Fx.sz1_3 rfl rfl (by first | rfl | assumption | exact Row.one (by assumption) | exact Sl.one (by assumption)) rfl (by repeat (first | exact Upd.hd | apply Upd.tl)) (by repeat (first | exact LSet.hd | apply LSet.tl))) ?_
  refine Ops.nil ?_
  refine Ex.next ?_
  refine Cod.seq ?_
  refine Cod.region ?_
  refine Ops.val (opV_assign rfl) rfl ?_
  refine Ops.nil ?_
  refine Ex.next ?_
  refine Cod.ret ?_
  exact Ex.ret1 rfl rfl (fun _ h => h.subs (by first | ((repeat (first | exact Sub.refl | exact Sub.nil | apply Sub.emp | (apply Sub.cons; focus ((repeat (first | exact Pick.hd | apply Pick.tl)); done)) | (apply Sub.con; focus ((repeat (first | exact Pick.hd | apply Pick.tl)); done)) | (apply Sub.app; focus ((repeat (first | exact Pick.hd | apply Pick.tl)); done)) | apply Sub.drop)); done) | ((repeat (first | rw [List.append_assoc] | rw [List.cons_append] | rw [List.nil_append] | rw [List.append_nil])); (repeat (first | exact Sub.refl | exact Sub.nil | apply Sub.emp | (apply Sub.cons; focus ((repeat (first | exact Pick.hd | apply Pick.tl)); done)) | (apply Sub.con; focus ((repeat (first | exact Pick.hd | apply Pick.tl)); done)) | (apply Sub.app; focus ((repeat (first | exact Pick.hd | apply Pick.tl)); done)) | apply Sub.drop)); done))) ⟨rfl, _, ⟨mb, ob, v67, _, _, A67, PA ++ A64, kvs, hM, hfin, by simpa using hA67, (hP.mono (by simp)).snoc (hA64.sl.mono (by simp)), rfl⟩, rfl⟩

theorem append_new {m : Nat} (hm : m = b.length) (hk : lkp nm D.files = none) (hg : good nm) (hu : D.used ≤ 1000000000) (hn : D.pend.length ≤ 100000000) (hb : b.length ≤ 1000000000) (hf : (D.used : Int) + b.length ≤ D.room) (hr : D.room ≤ 9223372036854775807)
    (hw : Owns e w As) (hp : Pick As A F) (hB : Has e F B) (hD : DiskA p D A) (hv : Sl B 1 v m (bcells b)) :
    Calls Tryz.prog 206 #[.pointer (some ⟨p, 0, none⟩), S nm, v] w (Ret e fun u Bs => u = .int .i64 0 ∧ ∃ A', DiskA p (D.append nm b) A' ∧ Bs = A' :: F) := by
  subst hm
  obtain ⟨mb, ob, pv, ps, FA, PR, PA, kvs, hM, hF, hR, hP, rfl⟩ := hD
  have hkv := (MapH.none_iff hF).2 hk
  refine enter Tryz.func206 rfl Tryz.ntmps206 (Owns.disk (hw.pick hp)) rfl ?_
  refine Cod.seq ?_
  refine Cod.region ?_
  refine Ops.val (opV_assign rfl) rfl ?_
  refine Ops.nil ?_
  refine Ex.next ?_
  refine Cod.seq ?_
  refine Cod.block ?_
  refine Cod.seq ?_
  refine Cod.region ?_
  refine Ops.val (opV_move rfl) rfl ?_
  refine Ops.call rfl (opC_call Fx.cal_74 rfl (fun w hw => goodName hg hw)) rfl ?_
  rintro v10 _ ⟨rfl, rfl⟩
  refine Ops.val (opV_not rfl) rfl ?_
  refine Ops.val (opV_assign rfl) rfl ?_
  refine Ops.nil ?_
  refine Ex.next ?_
  refine Cod.condF rfl ?_
  refine Cod.seq ?_
  refine Cod.draw0 [3, 7, 15, 19] [0, 1, 2, 4, 5, 6, 8, 9, 10, 11, 12, 13, 14, 16, 17, 18, 20, 21, 22, 23] [0, 1, 2, 3, 4, 5, 6, 7, 8, 9, 10, 11, 12, 13, 14, 15, 16, 17, 18, 19, 20, 21, 22, 23] M.mixed (by kernel_rfl) ?_
  refine AnyJ.valU rfl rfl rfl (opV_move rfl) rfl (fun _ _ _ h => h.2.elim) ?_
  refine AnyJ.valU rfl rfl rfl (opV_nil rfl) rfl (fun _ _ _ h => h.2.elim) ?_
  refine AnyJ.valU rfl rfl rfl (opV_field Fx.fld_144_2 rfl) rfl (fun _ _ _ h => h.2.elim) ?_
  refine AnyJ.val rfl rfl (opV_load Fx.scal_3 rfl (by repeat (first | exact Cell.one rfl | assumption | apply Cell.tl))) rfl (fun _ _ _ h => h.2.elim) (fun _ h => h) ?_
  refine AnyJ.valU rfl rfl rfl (opV_move rfl) rfl (fun _ _ _ h => h.2.elim) ?_
  refine AnyJ.valU rfl rfl rfl (opV_nil rfl) rfl (fun _ _ _ h => h.2.elim) ?_
  refine AnyJ.valU rfl rfl rfl (opV_field Fx.fld_144_3 rfl) rfl (fun _ _ _ h => h.2.elim) ?_
  refine AnyJ.val rfl rfl (opV_load Fx.scal_3 rfl (by repeat (first | exact Cell.one rfl | assumption | apply Cell.tl))) rfl (fun _ _ _ h => h.2.elim) (fun _ h => h) ?_
  refine AnyJ.valU rfl rfl rfl (opV_lss rfl rfl (by first | exact decide_eq_true (by omega) | exact decide_eq_false (by omega) | rfl)) rfl (fun _ _ _ h => h.2.elim) ?_
  refine AnyJ.valU rfl rfl rfl (opV_move rfl) rfl (fun _ _ _ h => h.2.elim) ?_
  refine AnyJ.valU rfl rfl rfl (opV_move rfl) rfl (fun _ _ _ h => h.2.elim) ?_
  refine AnyJ.valU rfl rfl rfl (opV_len Fx.sl_29 rfl hv.isSlice) rfl (fun _ _ _ h => h.2.elim) ?_
  refine AnyJ.valU rfl rfl rfl (opV_move rfl) rfl (fun _ _ _ h => h.2.elim) ?_
  refine AnyJ.valU rfl rfl rfl (opV_nil rfl) rfl (fun _ _ _ h => h.2.elim) ?_
  refine AnyJ.valU rfl rfl rfl (opV_field Fx.fld_144_2 rfl) rfl (fun _ _ _ h => h.2.elim) ?_
  refine AnyJ.val rfl rfl (opV_load Fx.scal_3 rfl (by repeat (first | exact Cell.one rfl | assumption | apply Cell.tl))) rfl (fun _ _ _ h => h.2.elim) (fun _ h => h) ?_
  refine AnyJ.valU rfl rfl rfl (opV_move rfl) rfl (fun _ _ _ h => h.2.elim) ?_
  refine AnyJ.valU rfl rfl rfl (opV_nil rfl) rfl (fun _ _ _ h => h.2.elim) ?_
  refine AnyJ.valU rfl rfl rfl (opV_field Fx.fld_144_3 rfl) rfl (fun _ _ _ h => h.2.elim) ?_
  refine AnyJ.val rfl rfl (opV_load Fx.scal_3 rfl (by repeat (first | exact Cell.one rfl | assumption | apply Cell.tl))) rfl (fun _ _ _ h => h.2.elim) (fun _ h => h) ?_
  refine AnyJ.valU rfl rfl rfl (opV_sub64 rfl rfl (by omega)) rfl (fun _ _ _ h => h.2.elim) ?_
  refine AnyJ.valU rfl rfl rfl (opV_gtr rfl rfl (by first | exact decide_eq_true (by omega) | exact decide_eq_false (by omega) | rfl)) rfl (fun _ _ _ h => h.2.elim) ?_
  refine AnyJ.valU rfl rfl rfl (opV_pickF rfl rfl) rfl (fun _ _ _ h => h.2.elim) ?_
  refine AnyJ.valU rfl rfl rfl (opV_assign rfl) rfl (fun _ _ _ h => h.2.elim) ?_
  refine AnyJ.nil ?_
  refine Ex.next ?_
  refine Cod.condF rfl ?_
  refine Cod.skip ?_
  refine Ex.blockNormal ?_
  refine Ex.next ?_
  refine Cod.seq ?_
  refine Cod.region ?_
  refine Ops.val (opV_move rfl) rfl ?_
  refine Ops.val (opV_nil rfl) rfl ?_
  refine Ops.val (opV_field Fx.fld_144_0 rfl) rfl ?_
  refine Ops.val (opV_load Fx.scal_141 rfl (by repeat (first | exact Cell.one rfl | assumption | apply Cell.tl))) rfl ?_
  refine Ops.val (opV_move rfl) rfl ?_
  refine Ops.val (opV_lookup (κ := Str) Fx.map_141 rfl rfl (.mem (by repeat (first | exact List.Mem.head _ | apply List.Mem.tail))) (List.Mem.head _) hM) rfl ?_
  rw [hkv]
  refine Ops.val (opV_assign rfl) rfl ?_
  refine Ops.nil ?_
  refine Ex.next ?_
  refine Cod.seq ?_
  refine Cod.seq ?_
  refine Cod.region ?_
  refine Ops.val (opV_move rfl) rfl ?_
  refine Ops.val (opV_ptrnil Fx.ptr_161 rfl rfl rfl) rfl ?_
  refine Ops.nil ?_
  refine Ex.next ?_
  refine Cod.condT rfl ?_
  refine Cod.seq ?_
  refine Cod.region ?_
  refine Ops.val (opV_build Fx.st_163 rfl (by first | (simp [fillL]; rfl) | (simp [fillL]; done) | rfl)) rfl ?_
  refine Ops.eff rfl (opE_box rfl) rfl ?_
  rintro _ _ ⟨b45, rfl, rfl⟩
  refine Ops.val (opV_assign rfl) rfl ?_
  refine Ops.nil ?_
  refine Ex.next ?_
  refine Cod.region ?_
  refine Ops.val (opV_move rfl) rfl ?_
  refine Ops.val (opV_nil rfl) rfl ?_
  refine Ops.val (opV_field Fx.fld_144_0 rfl) rfl ?_
  refine Ops.val (opV_load Fx.scal_141 rfl (by repeat (first | exact Cell.one rfl | assumption | apply Cell.tl))) rfl ?_
  refine Ops.val (opV_move rfl) rfl ?_
  refine Ops.val (opV_move rfl) rfl ?_
  refine Ops.stE rfl (opS_mapUpdate (κ := Str) Fx.map_141 rfl rfl rfl (by repeat (first | exact Pick.hd | apply Pick.tl)) hM ) ?_
  rintro _ ⟨ob', hM', rfl⟩
  refine Ops.nil ?_
  refine Ex.next ?_
  refine Cod.seq ?_
  refine Cod.draw [4, 9] [0, 1, 2, 3, 5, 6, 7, 8, 10, 11, 13, 16, 17] ([(p, .cells #[.map (some mb), pv, .int .i64 D.room, .int .i64 (D.used : Int)] 144)] :: [(b45, .cells #[.slice none 0 0, .slice none 0 0] 163)] :: []) [0, 1, 2, 3, 4, 5, 6, 7, 8, 9, 10, 11, 12, 13, 14, 15, 16, 17, 18] M.mixed (by kernel_rfl) ?_
  refine AnyJ.valU rfl rfl rfl (opV_move rfl) rfl (fun _ _ _ h => h.2.elim) ?_
  refine AnyJ.valU rfl rfl rfl (opV_move rfl) rfl (fun _ _ _ h => h.2.elim) ?_
  refine AnyJ.valU rfl rfl rfl (opV_nil rfl) rfl (fun _ _ _ h => h.2.elim) ?_
  refine AnyJ.valU rfl rfl rfl (opV_field Fx.fld_144_1 rfl) rfl (fun _ _ _ h => h.2.elim) ?_
  refine AnyJ.val rfl rfl (opV_load Fx.scal_142 rfl (by repeat (first | exact Cell.one rfl | assumption | apply Cell.tl))) rfl (fun _ _ _ h => h.2.elim) (fun _ h => h.subs (by first | ((repeat (first | exact Sub.refl | exact Sub.nil | apply Sub.emp | (apply Sub.cons; focus ((repeat (first | exact Pick.hd | apply Pick.tl)); done)) | (apply Sub.con; focus ((repeat (first | exact Pick.hd | apply Pick.tl)); done)) | (apply Sub.app; focus ((repeat (first | exact Pick.hd | apply Pick.tl)); done)) | apply Sub.drop)); done) | ((repeat (first | rw [List.append_assoc] | rw [List.cons_append] | rw [List.nil_append] | rw [List.append_nil])); (repeat (first | exact Sub.refl | exact Sub.nil | apply Sub.emp | (apply Sub.cons; focus ((repeat (first | exact Pick.hd | apply Pick.tl)); done)) | (apply Sub.con; focus ((repeat (first | exact Pick.hd | apply Pick.tl)); done)) | (apply Sub.app; focus ((repeat (first | exact Pick.hd | apply Pick.tl)); done)) | apply Sub.drop)); done))) ?_
  refine AnyJ.valU rfl rfl rfl (opV_move rfl) rfl (fun _ _ _ h => h.2.elim) ?_
  refine AnyJ.valU rfl rfl rfl (opV_move rfl) rfl (fun _ _ _ h => h.2.elim) ?_
  refine AnyJ.valU rfl rfl rfl (opV_nil rfl) rfl (fun _ _ _ h => h.2.elim) ?_
  refine AnyJ.valU rfl rfl rfl (opV_field Fx.fld_163_0 rfl) rfl (fun _ _ _ h => h.2.elim) ?_
  refine AnyJ.val rfl rfl (opV_load Fx.scal_29 rfl (by repeat (first | exact Cell.one rfl | assumption | apply Cell.tl))) rfl (fun _ _ _ h => h.2.elim) (fun _ h => h.subs (by first | ((repeat (first | exact Sub.refl | exact Sub.nil | apply Sub.emp | (apply Sub.cons; focus ((repeat (first | exact Pick.hd | apply Pick.tl)); done)) | (apply Sub.con; focus ((repeat (first | exact Pick.hd | apply Pick.tl)); done)) | (apply Sub.app; focus ((repeat (first | exact Pick.hd | apply Pick.tl)); done)) | apply Sub.drop)); done) | ((repeat (first | rw [List.append_assoc] | rw [List.cons_append] | rw [List.nil_append] | rw [List.append_nil])); (repeat (first | exact Sub.refl | exact Sub.nil | apply Sub.emp | (apply Sub.cons; focus ((repeat (first | exact Pick.hd | apply Pick.tl)); done)) | (apply Sub.con; focus ((repeat (first | exact Pick.hd | apply Pick.tl)); done)) | (apply Sub.app; focus ((repeat (first | exact Pick.hd | apply Pick.tl)); done)) | apply Sub.drop)); done))) ?_
  refine AnyJ.valU rfl rfl rfl (opV_len Fx.sl_29 rfl (by first | exact ⟨_, _, rfl⟩ | exact Sl.isSlice (by assumption) | exact (Row.sl (by assumption)).isSlice)) rfl (fun _ _ _ h => h.2.elim) ?_
  refine AnyJ.valU rfl rfl rfl (opV_move rfl) rfl (fun _ _ _ h => h.2.elim) ?_
  refine AnyJ.call rfl rfl (opC_call Fx.cal_61 rfl (fun w hw => clone_bytes hw hv (by repeat (first | assumption | apply Has.up)) (bcells_one _) (by omega) (by omega))) rfl ?_
  rintro v64 _ ⟨A64, hA64, rfl⟩
  refine ⟨(by first | (intro _ _ h; refine h.subs ?_; (repeat (first | exact Sub.refl | exact Sub.nil | apply Sub.emp | (apply Sub.cons; focus ((repeat (first | exact Pick.hd | apply Pick.tl)); done)) | (apply Sub.con; focus ((repeat (first | exact Pick.hd | apply Pick.tl)); done)) | (apply Sub.app; focus ((repeat (first | exact Pick.hd | apply Pick.tl)); done)) | apply Sub.drop)); done) | exact lead_no (by kernel_rfl)), ?_⟩
  obtain ⟨a64, c64, rfl⟩ := hA64.isSlice
  refine AnyJ.valU rfl rfl rfl (opV_build Fx.st_166 rfl (by first | (simp [fillL, vcells, putAt]; rfl) | (simp [fillL, vcells, putAt]; done) | rfl)) rfl (fun _ _ _ h => h.2.elim) ?_
  refine AnyJ.eff rfl rfl (opE_buildSlice Fx.sl_142 rfl rfl (by first | (simp [fillL, rowCells, vcells, putAt]; rfl) | (simp [fillL, rowCells, vcells, putAt]; done) | rfl)) rfl ?_
  rintro _ _ ⟨b66, rfl, rfl⟩
  refine ⟨(by first | (intro _ _ h; refine h.subs ?_; (repeat (first | exact Sub.refl | exact Sub.nil | apply Sub.emp | (apply Sub.cons; focus ((repeat (first | exact Pick.hd | apply Pick.tl)); done)) | (apply Sub.con; focus ((repeat (first | exact Pick.hd | apply Pick.tl)); done)) | (apply Sub.app; focus ((repeat (first | exact Pick.hd | apply Pick.tl)); done)) | apply Sub.drop)); done) | exact lead_no (by kernel_rfl)), ?_⟩
  refine AnyJ.eff rfl rfl (opE_append Fx.sl_142 rfl Fx.ni_142 rfl rfl (by repeat (first | exact Pick.hd | apply Pick.tl)) hR (one_src (.mem (by repeat (first | exact List.Mem.head _ | apply List.Mem.tail))) rfl (by simp [Value.oneCell'])) (by omega) (by simp [maxLen]; omega)) rfl ?_
  rintro v67 _ ⟨A67, hA67, rfl⟩
  refine ⟨(by first | (intro _ _ h; refine h.subs ?_; (repeat (first | exact Sub.refl | exact Sub.nil | apply Sub.emp | (apply Sub.cons; focus ((repeat (first | exact Pick.hd | apply Pick.tl)); done)) | (apply Sub.con; focus ((repeat (first | exact Pick.hd | apply Pick.tl)); done)) | (apply Sub.app; focus ((repeat (first | exact Pick.hd | apply Pick.tl)); done)) | apply Sub.drop)); done) | exact lead_no (by kernel_rfl)), ?_⟩
  refine AnyJ.valU rfl rfl rfl (opV_nil rfl) rfl (fun _ _ _ h => h.2.elim) ?_
  refine AnyJ.valU rfl rfl rfl (opV_field Fx.fld_144_1 rfl) rfl (fun _ _ _ h => h.2.elim) ?_
  refine AnyJ.st rfl rfl (opS_store Fx.scal_142 Fx.sz1_142 rfl rfl (by first | rfl | assumption | exact Row.one (by assumption) | exact Sl.one (by assumption)) rfl (by repeat (first | exact Upd.hd | apply Upd.tl)) (by repeat (first | exact LSet.hd | apply LSet.tl))) (by first | (intro _ _ h; refine h.subs ?_; (repeat (first | exact Sub.refl | exact Sub.nil | apply Sub.emp | (apply Sub.cons; focus ((repeat (first | exact Pick.hd | apply Pick.tl)); done)) | (apply Sub.con; focus ((repeat (first | exact Pick.hd | apply Pick.tl)); done)) | (apply Sub.app; focus ((repeat (first | exact Pick.hd | apply Pick.tl)); done)) | apply Sub.drop)); done) | exact lead_no (by kernel_rfl)) ?_
  refine AnyJ.nil ?_
  refine Ex.next ?_
  refine Cod.seq ?_
  refine Cod.region ?_
  refine Ops.val (opV_move rfl) rfl ?_
  refine Ops.val (opV_move rfl) rfl ?_
  refine Ops.val (opV_nil rfl) rfl ?_
  refine Ops.val (opV_field Fx.fld_163_0 rfl) rfl ?_
  refine Ops.val (opV_load Fx.scal_29 rfl (by repeat (first | exact Cell.one rfl | assumption | apply Cell.tl))) rfl ?_
  refine Ops.val (opV_move rfl) rfl ?_
  refine Ops.eff rfl (opE_appendNil Fx.sl_29 rfl Fx.ni_29 rfl rfl (hv.src (by repeat (first | assumption | apply Has.up)) (bcells_one _)) (by omega) (by simp [maxLen]; omega)) rfl ?_
  rintro v76 _ ⟨A76, hA76, rfl⟩
  refine Ops.val (opV_nil rfl) rfl ?_
  refine Ops.val (opV_field Fx.fld_163_0 rfl) rfl ?_
  refine Ops.st rfl (opS_store Fx.scal_29 Fx.sz1_29 rfl rfl (by first | rfl | assumption | exact Row.one (by assumption) | exact Sl.one (by assumption)) rfl (by repeat (first | exact Upd.hd | apply Upd.tl)) (by repeat (first | exact LSet.hd | apply LSet.tl))) ?_
  refine Ops.nil ?_
  refine Ex.next ?_
  refine Cod.seq ?_
  refine Cod.region ?_
  refine Ops.val (opV_move rfl) rfl ?_
  refine Ops.val (opV_nil rfl) rfl ?_
  refine Ops.val (opV_field Fx.fld_144_3 rfl) rfl ?_
  refine Ops.val (opV_load Fx.scal_3 rfl (by repeat (first | exact Cell.one rfl | assumption | apply Cell.tl))) rfl ?_
  refine Ops.val (opV_move rfl) rfl ?_
  refine Ops.val (opV_len Fx.sl_29 rfl hv.isSlice) rfl ?_
  have hap : D.append nm b = { D with files := ins nm (b, []) D.files, pend := D.pend ++ [(nm, 0, b)] } := by simp [DK.append, hk]
  have hus : (((D.append nm b).used : Nat) : Int) = (D.used : Int) + (b.length : Int) := by
      rw [hap]
      have := usedF_new (d' := b) (s' := []) hk
      simp only [DK.used] at this ⊢
      omega
  have hfin := MapH.add hF hkv (P := FileP) (v := .pointer (some ⟨b45, 0, none⟩)) (a := (b, [])) ⟨b45, v76, .slice none 0 0, A76, [], rfl, hA76, Row.nil _ _, rfl⟩
  refine Ops.val (opV_add64 rfl rfl (by omega)) rfl ?_
  rw [← hus]
  rw [hap]
  refine Ops.val (opV_nil rfl) rfl ?_
  refine Ops.val (opV_field Fx.fld_144_3 rfl) rfl ?_
  refine Ops.st rfl (opS_store Fx.scal_3 Fx.sz1_3 rfl rfl (by first | rfl | assumption | exact Row.one (by assumption) | exact Sl.one (by assumption)) rfl (by repeat (first | exact Upd.hd | apply Upd.tl)) (by repeat (first | exact LSet.hd | apply LSet.tl))) ?_
  refine Ops.nil ?_
  refine Ex.next ?_
  refine Cod.seq ?_
  refine Cod.region ?_
  refine Ops.val (opV_assign rfl) rfl ?_
  refine Ops.nil ?_
  refine Ex.next ?_
  refine Cod.ret ?_
  exact Ex.ret1 rfl rfl (fun _ h => h.subs (by first | ((repeat (first | exact Sub.refl | exact Sub.nil | apply Sub.emp | (apply Sub.cons; focus ((repeat (first | exact Pick.hd | apply Pick.tl)); done)) | (apply Sub.con; focus ((repeat (first | exact Pick.hd | apply Pick.tl)); done)) | (apply Sub.app; focus ((repeat (first | exact Pick.hd | apply Pick.tl)); done)) | apply Sub.drop)); done) | ((repeat (first | rw [List.append_assoc] | rw [List.cons_append] | rw [List.nil_append] | rw [List.append_nil])); (repeat (first | exact Sub.refl | exact Sub.nil | apply Sub.emp | (apply Sub.cons; focus ((repeat (first | exact Pick.hd | apply Pick.tl)); done)) | (apply Sub.con; focus ((repeat (first | exact Pick.hd | apply Pick.tl)); done)) | (apply Sub.app; focus ((repeat (first | exact Pick.hd | apply Pick.tl)); done)) | apply Sub.drop)); done))) ⟨rfl, _, ⟨mb, ob', v67, _, _, A67, PA ++ A64, _, hM', hfin, by simpa using hA67, (hP.mono (by simp)).snoc (hA64.sl.mono (by simp)), rfl⟩, rfl⟩

theorem append_spec {m : Nat} (hm : m = b.length) (hg : good nm) (hu : D.used ≤ 1000000000) (hn : D.pend.length ≤ 100000000) (hb : b.length ≤ 1000000000) (hf : (D.used : Int) + b.length ≤ D.room) (hr : D.room ≤ 9223372036854775807)
    (hw : Owns e w As) (hp : Pick As A F) (hB : Has e F B) (hD : DiskA p D A) (hv : Sl B 1 v m (bcells b)) :
    Calls Tryz.prog 206 #[.pointer (some ⟨p, 0, none⟩), S nm, v] w (Ret e fun u Bs => u = .int .i64 0 ∧ ∃ A', DiskA p (D.append nm b) A' ∧ Bs = A' :: F) := by
  cases hq : lkp nm D.files with
  | none => exact append_new hm hq hg hu hn hb hf hr hw hp hB hD hv
  | some x => exact append_old hm hq hg hu hn hb hf hr hw hp hB hD hv

theorem read_some {d s : Str} (hk : lkp nm D.files = some (d, s)) (hu : D.used ≤ 1000000000) (hw : Owns e w As) (hA : Has e As A) (hD : DiskA p D A) :
    Calls Tryz.prog 145 #[.pointer (some ⟨p, 0, none⟩), S nm] w (Ret e fun u Bs => ∃ v A', u = .tuple #[v, .bool true] ∧ Row 5 1 v d.length (bcells d) A' ∧ Bs = A' :: As) := by
  obtain ⟨mb, ob, pv, ps, FA, PR, PA, kvs, hM, hF, hR, hP, rfl⟩ := hD
  obtain ⟨fv, hkv⟩ := hF.kv hk
  obtain ⟨⟨d', s'⟩, B, FA', e1, ⟨fb, dv, sv, R1, R2, rfl, h1, h2, rfl⟩, hpm, _, _, _⟩ := MapH.get hF hkv
  rw [e1] at hk
  cases hk
  dsimp only at h1 h2
  have hdu : d.length ≤ D.used := usedF_le e1
  have hin : ∀ x ∈ (fb, Obj.cells #[dv, sv] 163) :: (R1 ++ R2), x ∈ FA := fun x hx => hpm.mem_iff.2 (List.mem_append.2 (.inl hx))
  have hin2 : ∀ x ∈ FA, x ∈ (p, Obj.cells #[.map (some mb), pv, .int .i64 D.room, .int .i64 (D.used : Int)] 144) :: (mb, ob) :: (FA ++ (PR ++ PA)) := fun x hx => .tail _ (.tail _ (List.mem_append.2 (.inl hx)))
  refine enter Tryz.func145 rfl Tryz.ntmps145 hw rfl ?_
  refine Cod.seq ?_
  refine Cod.region ?_
  refine Ops.val (opV_assign rfl) rfl ?_
  refine Ops.val (opV_assign rfl) rfl ?_
  refine Ops.nil ?_
  refine Ex.next ?_
  refine Cod.seq ?_
  refine Cod.region ?_
  refine Ops.val (opV_move rfl) rfl ?_
  refine Ops.val (opV_nil rfl) rfl ?_
  refine Ops.val (opV_field Fx.fld_144_0 rfl) rfl ?_
  refine Ops.val (opV_load Fx.scal_141 rfl (cellOf hA (List.Mem.head _) rfl)) rfl ?_
  refine Ops.val (opV_move rfl) rfl ?_
  refine Ops.val (opV_lookup (κ := Str) Fx.map_141 rfl rfl hA (.tail _ (List.Mem.head _)) hM) rfl ?_
  rw [hkv]
  refine Ops.val (opV_assign rfl) rfl ?_
  refine Ops.nil ?_
  refine Ex.next ?_
  refine Cod.seq ?_
  refine Cod.seq ?_
  refine Cod.region ?_
  refine Ops.val (opV_move rfl) rfl ?_
  refine Ops.val (opV_ptrnil Fx.ptr_161 rfl rfl rfl) rfl ?_
  refine Ops.nil ?_
  refine Ex.next ?_
  refine Cod.condF rfl ?_
  refine Cod.skip ?_
  refine Ex.next ?_
  refine Cod.seq ?_
  refine Cod.region ?_
  refine Ops.val (opV_move rfl) rfl ?_
  refine Ops.val (opV_nil rfl) rfl ?_
  refine Ops.val (opV_field Fx.fld_163_0 rfl) rfl ?_
  refine Ops.val (opV_load Fx.scal_29 rfl (cellOf (i := 0) hA (hin2 _ (hin _ (List.Mem.head _))) rfl)) rfl ?_
  refine Ops.call rfl (opC_call Fx.cal_61 rfl (fun w hw => clone_bytes hw (h1.sl.mono fun x hx => hin2 x (hin x (.tail _ (List.mem_append.2 (.inl hx))))) hA (bcells_one _) (by omega) (by omega))) rfl ?_
  rintro v19 _ ⟨A', hA', rfl⟩
  refine Ops.val (opV_assign rfl) rfl ?_
  refine Ops.val (opV_assign rfl) rfl ?_
  refine Ops.nil ?_
  refine Ex.next ?_
  refine Cod.ret ?_
  exact Ex.ret2 rfl rfl rfl (fun _ h => h.subs (by first | ((repeat (first | exact Sub.refl | exact Sub.nil | apply Sub.emp | (apply Sub.cons; focus ((repeat (first | exact Pick.hd | apply Pick.tl)); done)) | (apply Sub.con; focus ((repeat (first | exact Pick.hd | apply Pick.tl)); done)) | (apply Sub.app; focus ((repeat (first | exact Pick.hd | apply Pick.tl)); done)) | apply Sub.drop)); done) | ((repeat (first | rw [List.append_assoc] | rw [List.cons_append] | rw [List.nil_append] | rw [List.append_nil])); (repeat (first | exact Sub.refl | exact Sub.nil | apply Sub.emp | (apply Sub.cons; focus ((repeat (first | exact Pick.hd | apply Pick.tl)); done)) | (apply Sub.con; focus ((repeat (first | exact Pick.hd | apply Pick.tl)); done)) | (apply Sub.app; focus ((repeat (first | exact Pick.hd | apply Pick.tl)); done)) | apply Sub.drop)); done))) ⟨_, A', rfl, hA', rfl⟩

theorem index_nil {w : World} {c : Nat} {a : Option Addr} {f : Value} (hw : Owns e w As) : Calls Tryz.prog 312 #[.slice a 0 c, f] w (Ret e fun u Bs => u = .int .i64 (-1) ∧ Bs = As) := by
  refine enter Tryz.func312 rfl Tryz.ntmps312 hw rfl ?_
  refine Cod.seq ?_
  refine Cod.region ?_
  refine Ops.val (opV_assign rfl) rfl ?_
  refine Ops.nil ?_
  refine Ex.next ?_
  refine Cod.seq ?_
  refine Cod.seq ?_
  refine Cod.region ?_
  refine Ops.val (opV_move rfl) rfl ?_
  refine Ops.val (opV_len Fx.sl_142 rfl (by first | exact ⟨_, _, rfl⟩ | exact Sl.isSlice (by assumption) | exact (Row.sl (by assumption)).isSlice)) rfl ?_
  refine Ops.val (opV_move rfl) rfl ?_
  refine Ops.nil ?_
  refine Ex.next ?_
  refine Cod.block ?_
  refine Cod.loop (X := Unit) (fun _ => [(7, .int .i64 0), (8, .int .i64 0)]) (fun _ => As) (fun _ => True) (fun _ => 0) (()) (trivial) (by repeat (first | exact trivial | refine ⟨rfl, ?_⟩)) (fun _ h => h.subs (by first | ((repeat (first | exact Sub.refl | exact Sub.nil | apply Sub.emp | (apply Sub.cons; focus ((repeat (first | exact Pick.hd | apply Pick.tl)); done)) | (apply Sub.con; focus ((repeat (first | exact Pick.hd | apply Pick.tl)); done)) | (apply Sub.app; focus ((repeat (first | exact Pick.hd | apply Pick.tl)); done)) | apply Sub.drop)); done) | ((repeat (first | rw [List.append_assoc] | rw [List.cons_append] | rw [List.nil_append] | rw [List.append_nil])); (repeat (first | exact Sub.refl | exact Sub.nil | apply Sub.emp | (apply Sub.cons; focus ((repeat (first | exact Pick.hd | apply Pick.tl)); done)) | (apply Sub.con; focus ((repeat (first | exact Pick.hd | apply Pick.tl)); done)) | (apply Sub.app; focus ((repeat (first | exact Pick.hd | apply Pick.tl)); done)) | apply Sub.drop)); done))) ?_
  rintro _ _
  try dsimp only
  refine Cod.seq ?_
  refine Cod.region ?_
  refine Ops.val (opV_lss rfl rfl (by first | exact decide_eq_true (by omega) | exact decide_eq_false (by omega) | rfl)) rfl ?_
  refine Ops.nil ?_
  refine Ex.next ?_
  refine Cod.seq ?_
  refine Cod.condF rfl ?_
  refine Cod.exit ?_
  refine Ex.thenExit ?_
  refine Ex.thenExit ?_
  refine Ex.blockHit ?_
  refine Ex.next ?_
  refine Cod.seq ?_
  refine Cod.region ?_
  refine Ops.val (opV_assign rfl) rfl ?_
  refine Ops.nil ?_
  refine Ex.next ?_
  refine Cod.ret ?_
  exact Ex.ret1 rfl rfl (fun _ h => h.subs (by first | ((repeat (first | exact Sub.refl | exact Sub.nil | apply Sub.emp | (apply Sub.cons; focus ((repeat (first | exact Pick.hd | apply Pick.tl)); done)) | (apply Sub.con; focus ((repeat (first | exact Pick.hd | apply Pick.tl)); done)) | (apply Sub.app; focus ((repeat (first | exact Pick.hd | apply Pick.tl)); done)) | apply Sub.drop)); done) | ((repeat (first | rw [List.append_assoc] | rw [List.cons_append] | rw [List.nil_append] | rw [List.append_nil])); (repeat (first | exact Sub.refl | exact Sub.nil | apply Sub.emp | (apply Sub.cons; focus ((repeat (first | exact Pick.hd | apply Pick.tl)); done)) | (apply Sub.con; focus ((repeat (first | exact Pick.hd | apply Pick.tl)); done)) | (apply Sub.app; focus ((repeat (first | exact Pick.hd | apply Pick.tl)); done)) | apply Sub.drop)); done))) ⟨rfl, rfl⟩
theorem delete_nil {w : World} {c : Nat} {a : Option Addr} {f : Value} (hw : Owns e w As) : Calls Tryz.prog 257 #[.slice a 0 c, f] w (Ret e fun u Bs => u = .slice a 0 c ∧ Bs = As) := by
  refine enter Tryz.func257 rfl Tryz.ntmps257 hw rfl ?_
  refine Cod.seq ?_
  refine Cod.region ?_
  refine Ops.val (opV_assign rfl) rfl ?_
  refine Ops.nil ?_
  refine Ex.next ?_
  refine Cod.seq ?_
  refine Cod.region ?_
  refine Ops.val (opV_move rfl) rfl ?_
  refine Ops.val (opV_move rfl) rfl ?_
  refine Ops.call rfl (opC_call Fx.cal_312 rfl (fun w hw => index_nil hw)) rfl ?_
  rintro v10 _ ⟨rfl, rfl⟩
  refine Ops.val (opV_assign rfl) rfl ?_
  refine Ops.nil ?_
  refine Ex.next ?_
  refine Cod.seq ?_
  refine Cod.seq ?_
  refine Cod.region ?_
  refine Ops.val (opV_move rfl) rfl ?_
  refine Ops.val (opV_eql rfl rfl (by first | exact decide_eq_true (by omega) | exact decide_eq_false (by omega) | rfl)) rfl ?_
  refine Ops.nil ?_
  refine Ex.next ?_
  refine Cod.condT rfl ?_
  refine Cod.seq ?_
  refine Cod.region ?_
  refine Ops.val (opV_move rfl) rfl ?_
  refine Ops.val (opV_assign rfl) rfl ?_
  refine Ops.nil ?_
  refine Ex.next ?_
  refine Cod.ret ?_
  refine Ex.thenRet ?_
  exact Ex.ret1 rfl rfl (fun _ h => h.subs (by first | ((repeat (first | exact Sub.refl | exact Sub.nil | apply Sub.emp | (apply Sub.cons; focus ((repeat (first | exact Pick.hd | apply Pick.tl)); done)) | (apply Sub.con; focus ((repeat (first | exact Pick.hd | apply Pick.tl)); done)) | (apply Sub.app; focus ((repeat (first | exact Pick.hd | apply Pick.tl)); done)) | apply Sub.drop)); done) | ((repeat (first | rw [List.append_assoc] | rw [List.cons_append] | rw [List.nil_append] | rw [List.append_nil])); (repeat (first | exact Sub.refl | exact Sub.nil | apply Sub.emp | (apply Sub.cons; focus ((repeat (first | exact Pick.hd | apply Pick.tl)); done)) | (apply Sub.con; focus ((repeat (first | exact Pick.hd | apply Pick.tl)); done)) | (apply Sub.app; focus ((repeat (first | exact Pick.hd | apply Pick.tl)); done)) | apply Sub.drop)); done))) ⟨rfl, rfl⟩
/-- Nothing is pending: forget does nothing. -/
theorem forget_nil {x y z : Value} {a : Option Addr} {c : Nat} (hw : Owns e w As) (hp : Pick As [(p, .cells #[x, .slice a 0 c, y, z] 144)] F) :
    Calls Tryz.prog 212 #[.pointer (some ⟨p, 0, none⟩), S nm] w (Ret e fun u Bs => u = .tuple #[] ∧ Bs = [(p, .cells #[x, .slice a 0 c, y, z] 144)] :: F) := by
  refine enter Tryz.func212 rfl Tryz.ntmps212 (hw.pick hp) rfl ?_
  refine Cod.seq ?_
  refine Cod.region ?_
  refine Ops.eff rfl (opE_box rfl) rfl ?_
  rintro _ _ ⟨b3, rfl, rfl⟩
  refine Ops.nil ?_
  refine Ex.next ?_
  refine Cod.region ?_
  refine Ops.val (opV_move rfl) rfl ?_
  refine Ops.val (opV_move rfl) rfl ?_
  refine Ops.val (opV_nil rfl) rfl ?_
  refine Ops.val (opV_field Fx.fld_144_1 rfl) rfl ?_
  refine Ops.val (opV_load Fx.scal_142 rfl (by repeat (first | exact Cell.one rfl | assumption | apply Cell.tl))) rfl ?_
  refine Ops.val (opV_makeFunc rfl rfl) rfl ?_
  refine Ops.call rfl (opC_call Fx.cal_257 rfl (fun w hw => delete_nil hw)) rfl ?_
  rintro v10 _ ⟨rfl, rfl⟩
  refine Ops.val (opV_nil rfl) rfl ?_
  refine Ops.val (opV_field Fx.fld_144_1 rfl) rfl ?_
  refine Ops.st rfl (opS_store Fx.scal_142 Fx.sz1_142 rfl rfl (by first | rfl | assumption | exact Row.one (by assumption) | exact Sl.one (by assumption)) rfl (by repeat (first | exact Upd.hd | apply Upd.tl)) (by repeat (first | exact LSet.hd | apply LSet.tl))) ?_
  refine Ops.nil ?_
  exact Ex.end0 rfl (fun _ h => h.subs (by first | ((repeat (first | exact Sub.refl | exact Sub.nil | apply Sub.emp | (apply Sub.cons; focus ((repeat (first | exact Pick.hd | apply Pick.tl)); done)) | (apply Sub.con; focus ((repeat (first | exact Pick.hd | apply Pick.tl)); done)) | (apply Sub.app; focus ((repeat (first | exact Pick.hd | apply Pick.tl)); done)) | apply Sub.drop)); done) | ((repeat (first | rw [List.append_assoc] | rw [List.cons_append] | rw [List.nil_append] | rw [List.append_nil])); (repeat (first | exact Sub.refl | exact Sub.nil | apply Sub.emp | (apply Sub.cons; focus ((repeat (first | exact Pick.hd | apply Pick.tl)); done)) | (apply Sub.con; focus ((repeat (first | exact Pick.hd | apply Pick.tl)); done)) | (apply Sub.app; focus ((repeat (first | exact Pick.hd | apply Pick.tl)); done)) | apply Sub.drop)); done))) ⟨rfl, rfl⟩

theorem remove_none (hk : lkp nm D.files = none) (hw : Owns e w As) (hA : Has e As A) (hD : DiskA p D A) :
    Calls Tryz.prog 147 #[.pointer (some ⟨p, 0, none⟩), S nm] w (Ret e fun u Bs => u = .int .i64 7 ∧ Bs = As) := by
  obtain ⟨mb, ob, pv, ps, FA, PR, PA, kvs, hM, hF, hR, hP, rfl⟩ := hD
  have hkv := (MapH.none_iff hF).2 hk
  refine enter Tryz.func147 rfl Tryz.ntmps147 hw rfl ?_
  refine Cod.seq ?_
  refine Cod.region ?_
  refine Ops.val (opV_assign rfl) rfl ?_
  refine Ops.nil ?_
  refine Ex.next ?_
  refine Cod.seq ?_
  refine Cod.region ?_
  refine Ops.val (opV_move rfl) rfl ?_
  refine Ops.val (opV_nil rfl) rfl ?_
  refine Ops.val (opV_field Fx.fld_144_0 rfl) rfl ?_
  refine Ops.val (opV_load Fx.scal_141 rfl (cellOf hA (List.Mem.head _) rfl)) rfl ?_
  refine Ops.val (opV_move rfl) rfl ?_
  refine Ops.val (opV_lookup (κ := Str) Fx.map_141 rfl rfl hA (.tail _ (List.Mem.head _)) hM) rfl ?_
  rw [hkv]
  refine Ops.val (opV_assign rfl) rfl ?_
  refine Ops.nil ?_
  refine Ex.next ?_
  refine Cod.seq ?_
  refine Cod.seq ?_
  refine Cod.region ?_
  refine Ops.val (opV_move rfl) rfl ?_
  refine Ops.val (opV_ptrnil Fx.ptr_161 rfl rfl rfl) rfl ?_
  refine Ops.nil ?_
  refine Ex.next ?_
  refine Cod.condT rfl ?_
  refine Cod.seq ?_
  refine Cod.region ?_
  refine Ops.val (opV_assign rfl) rfl ?_
  refine Ops.nil ?_
  refine Ex.next ?_
  refine Cod.ret ?_
  refine Ex.thenRet ?_
  exact Ex.ret1 rfl rfl (fun _ h => h.subs (by first | ((repeat (first | exact Sub.refl | exact Sub.nil | apply Sub.emp | (apply Sub.cons; focus ((repeat (first | exact Pick.hd | apply Pick.tl)); done)) | (apply Sub.con; focus ((repeat (first | exact Pick.hd | apply Pick.tl)); done)) | (apply Sub.app; focus ((repeat (first | exact Pick.hd | apply Pick.tl)); done)) | apply Sub.drop)); done) | ((repeat (first | rw [List.append_assoc] | rw [List.cons_append] | rw [List.nil_append] | rw [List.append_nil])); (repeat (first | exact Sub.refl | exact Sub.nil | apply Sub.emp | (apply Sub.cons; focus ((repeat (first | exact Pick.hd | apply Pick.tl)); done)) | (apply Sub.con; focus ((repeat (first | exact Pick.hd | apply Pick.tl)); done)) | (apply Sub.app; focus ((repeat (first | exact Pick.hd | apply Pick.tl)); done)) | apply Sub.drop)); done))) ⟨rfl, rfl⟩
theorem usedF_del {d s : Str} : ∀ {fs : List (Str × (Str × Str))}, lkp nm fs = some (d, s) → usedF (del nm fs) + d.length = usedF fs
  | [], h => by cases h
  | (k1, v1) :: fs, h => by
    by_cases h1 : k1 = nm
    · simp [lkp, h1] at h; subst h; simp [del, h1, usedF]; omega
    · simp [lkp, h1] at h
      have := usedF_del h
      simp [del, h1, usedF] at this ⊢; omega
theorem remove_spec {d s : Str} (hk : lkp nm D.files = some (d, s)) (hn : D.pend = []) (hu : D.used ≤ 1000000000) (hw : Owns e w As) (hp : Pick As A F) (hD : DiskA p D A) :
    Calls Tryz.prog 147 #[.pointer (some ⟨p, 0, none⟩), S nm] w (Ret e fun u Bs => u = .int .i64 0 ∧ ∃ A', DiskA p { D with files := del nm D.files } A' ∧ Bs = A' :: F) := by
  obtain ⟨mb, ob, pv, ps, FA, PR, PA, kvs, hM, hF, hR, hP, rfl⟩ := hD
  obtain ⟨fv, hkv⟩ := hF.kv hk
  obtain ⟨fb, dv, sv, data, safe, R1, R2, FA', rfl, hk', hd, hs, hown, _, hdel⟩ := hF.get hkv
  rw [hk'] at hk
  cases hk
  have hdu := usedF_le hk'
  have hdu' : d.length ≤ D.used := hdu
  have hdd := usedF_del hk'
  obtain ⟨ap, cp, rfl⟩ := hR.isSlice
  rw [hn] at hR hP
  have hus : ((usedF (del nm D.files) : Nat) : Int) = (D.used : Int) - (d.length : Int) := by
    unfold DK.used; omega
  have e0 : D.pend.length = 0 := by rw [hn]; rfl
  rw [e0] at hp
  refine enter Tryz.func147 rfl Tryz.ntmps147 (hown _ _ ((Owns.disk (hw.pick hp)).pick (.tl (.tl (.tl (.tl .hd)))))) rfl ?_
  refine Cod.seq ?_
  refine Cod.region ?_
  refine Ops.val (opV_assign rfl) rfl ?_
  refine Ops.nil ?_
  refine Ex.next ?_
  refine Cod.seq ?_
  refine Cod.region ?_
  refine Ops.val (opV_move rfl) rfl ?_
  refine Ops.val (opV_nil rfl) rfl ?_
  refine Ops.val (opV_field Fx.fld_144_0 rfl) rfl ?_
  refine Ops.val (opV_load Fx.scal_141 rfl (by repeat (first | exact Cell.one rfl | assumption | apply Cell.tl))) rfl ?_
  refine Ops.val (opV_move rfl) rfl ?_
  refine Ops.val (opV_lookup (κ := Str) Fx.map_141 rfl rfl (.mem (by repeat (first | exact List.Mem.head _ | apply List.Mem.tail))) (List.Mem.head _) hM) rfl ?_
  rw [hkv]
  refine Ops.val (opV_assign rfl) rfl ?_
  refine Ops.nil ?_
  refine Ex.next ?_
  refine Cod.seq ?_
  refine Cod.seq ?_
  refine Cod.region ?_
  refine Ops.val (opV_move rfl) rfl ?_
  refine Ops.val (opV_ptrnil Fx.ptr_161 rfl rfl rfl) rfl ?_
  refine Ops.nil ?_
  refine Ex.next ?_
  refine Cod.condF rfl ?_
  refine Cod.skip ?_
  refine Ex.next ?_
  refine Cod.seq ?_
  refine Cod.draw [3, 7] [0, 1, 2, 4, 5, 6, 8, 9, 10, 11] ([(p, .cells #[.map (some mb), .slice ap 0 cp, .int .i64 D.room, .int .i64 (D.used : Int)] 144)] :: [(fb, .cells #[dv, sv] 163)] :: []) [0, 1, 2, 3, 4, 5, 6, 7, 8, 9, 10, 11, 12] M.mixed (by kernel_rfl) ?_
  refine AnyJ.valU rfl rfl rfl (opV_move rfl) rfl (fun _ _ _ h => h.2.elim) ?_
  refine AnyJ.valU rfl rfl rfl (opV_nil rfl) rfl (fun _ _ _ h => h.2.elim) ?_
  refine AnyJ.valU rfl rfl rfl (opV_field Fx.fld_144_3 rfl) rfl (fun _ _ _ h => h.2.elim) ?_
  refine AnyJ.val rfl rfl (opV_load Fx.scal_3 rfl (by repeat (first | exact Cell.one rfl | assumption | apply Cell.tl))) rfl (fun _ _ _ h => h.2.elim) (fun _ h => h.subs (by first | ((repeat (first | exact Sub.refl | exact Sub.nil | apply Sub.emp | (apply Sub.cons; focus ((repeat (first | exact Pick.hd | apply Pick.tl)); done)) | (apply Sub.con; focus ((repeat (first | exact Pick.hd | apply Pick.tl)); done)) | (apply Sub.app; focus ((repeat (first | exact Pick.hd | apply Pick.tl)); done)) | apply Sub.drop)); done) | ((repeat (first | rw [List.append_assoc] | rw [List.cons_append] | rw [List.nil_append] | rw [List.append_nil])); (repeat (first | exact Sub.refl | exact Sub.nil | apply Sub.emp | (apply Sub.cons; focus ((repeat (first | exact Pick.hd | apply Pick.tl)); done)) | (apply Sub.con; focus ((repeat (first | exact Pick.hd | apply Pick.tl)); done)) | (apply Sub.app; focus ((repeat (first | exact Pick.hd | apply Pick.tl)); done)) | apply Sub.drop)); done))) ?_
  refine AnyJ.valU rfl rfl rfl (opV_move rfl) rfl (fun _ _ _ h => h.2.elim) ?_
  refine AnyJ.valU rfl rfl rfl (opV_nil rfl) rfl (fun _ _ _ h => h.2.elim) ?_
  refine AnyJ.valU rfl rfl rfl (opV_field Fx.fld_163_0 rfl) rfl (fun _ _ _ h => h.2.elim) ?_
  refine AnyJ.val rfl rfl (opV_load Fx.scal_29 rfl (by repeat (first | exact Cell.one rfl | assumption | apply Cell.tl))) rfl (fun _ _ _ h => h.2.elim) (fun _ h => h.subs (by first | ((repeat (first | exact Sub.refl | exact Sub.nil | apply Sub.emp | (apply Sub.cons; focus ((repeat (first | exact Pick.hd | apply Pick.tl)); done)) | (apply Sub.con; focus ((repeat (first | exact Pick.hd | apply Pick.tl)); done)) | (apply Sub.app; focus ((repeat (first | exact Pick.hd | apply Pick.tl)); done)) | apply Sub.drop)); done) | ((repeat (first | rw [List.append_assoc] | rw [List.cons_append] | rw [List.nil_append] | rw [List.append_nil])); (repeat (first | exact Sub.refl | exact Sub.nil | apply Sub.emp | (apply Sub.cons; focus ((repeat (first | exact Pick.hd | apply Pick.tl)); done)) | (apply Sub.con; focus ((repeat (first | exact Pick.hd | apply Pick.tl)); done)) | (apply Sub.app; focus ((repeat (first | exact Pick.hd | apply Pick.tl)); done)) | apply Sub.drop)); done))) ?_
  refine AnyJ.valU rfl rfl rfl (opV_len Fx.sl_29 rfl (by first | exact ⟨_, _, rfl⟩ | exact Sl.isSlice (by assumption) | exact (Row.sl (by assumption)).isSlice)) rfl (fun _ _ _ h => h.2.elim) ?_
  refine AnyJ.valU rfl rfl rfl (opV_sub64 rfl rfl (by omega)) rfl (fun _ _ _ h => h.2.elim) ?_
  refine AnyJ.valU rfl rfl rfl (opV_nil rfl) rfl (fun _ _ _ h => h.2.elim) ?_
  refine AnyJ.valU rfl rfl rfl (opV_field Fx.fld_144_3 rfl) rfl (fun _ _ _ h => h.2.elim) ?_
  refine AnyJ.st rfl rfl (opS_store Fx.scal_3 Fx.sz1_3 rfl rfl (by first | rfl | assumption | exact Row.one (by assumption) | exact Sl.one (by assumption)) rfl (by repeat (first | exact Upd.hd | apply Upd.tl)) (by repeat (first | exact LSet.hd | apply LSet.tl))) (by first | (intro _ _ h; refine h.subs ?_; (repeat (first | exact Sub.refl | exact Sub.nil | apply Sub.emp | (apply Sub.cons; focus ((repeat (first | exact Pick.hd | apply Pick.tl)); done)) | (apply Sub.con; focus ((repeat (first | exact Pick.hd | apply Pick.tl)); done)) | (apply Sub.app; focus ((repeat (first | exact Pick.hd | apply Pick.tl)); done)) | apply Sub.drop)); done) | exact lead_no (by kernel_rfl)) ?_
  refine AnyJ.nil ?_
  refine Ex.next ?_
  refine Cod.seq ?_
  refine Cod.region ?_
  refine Ops.val (opV_move rfl) rfl ?_
  refine Ops.val (opV_nil rfl) rfl ?_
  refine Ops.val (opV_field Fx.fld_144_0 rfl) rfl ?_
  refine Ops.val (opV_load Fx.scal_141 rfl (by repeat (first | exact Cell.one rfl | assumption | apply Cell.tl))) rfl ?_
  refine Ops.val (opV_move rfl) rfl ?_
  refine Ops.effN rfl (opE_delete (κ := Str) Fx.map_141 rfl rfl (by repeat (first | exact Pick.hd | apply Pick.tl)) hM ) ?_
  rintro _ _ ⟨ob', hM', rfl⟩
  rw [← hus]
  refine Ops.nil ?_
  refine Ex.next ?_
  refine Cod.seq ?_
  refine Cod.region ?_
  refine Ops.val (opV_move rfl) rfl ?_
  refine Ops.val (opV_move rfl) rfl ?_
  refine Ops.call rfl (opC_call Fx.cal_212 rfl (fun w hw => forget_nil hw (by repeat (first | exact Pick.hd | apply Pick.tl)))) rfl ?_
  rintro v33 _ ⟨rfl, rfl⟩
  refine Ops.nil ?_
  refine Ex.next ?_
  refine Cod.seq ?_
  refine Cod.region ?_
  refine Ops.val (opV_assign rfl) rfl ?_
  refine Ops.nil ?_
  refine Ex.next ?_
  refine Cod.ret ?_
  exact Ex.ret1 rfl rfl (fun _ h => h.subs (by first | ((repeat (first | exact Sub.refl | exact Sub.nil | apply Sub.emp | (apply Sub.cons; focus ((repeat (first | exact Pick.hd | apply Pick.tl)); done)) | (apply Sub.con; focus ((repeat (first | exact Pick.hd | apply Pick.tl)); done)) | (apply Sub.app; focus ((repeat (first | exact Pick.hd | apply Pick.tl)); done)) | apply Sub.drop)); done) | ((repeat (first | rw [List.append_assoc] | rw [List.cons_append] | rw [List.nil_append] | rw [List.append_nil])); (repeat (first | exact Sub.refl | exact Sub.nil | apply Sub.emp | (apply Sub.cons; focus ((repeat (first | exact Pick.hd | apply Pick.tl)); done)) | (apply Sub.con; focus ((repeat (first | exact Pick.hd | apply Pick.tl)); done)) | (apply Sub.app; focus ((repeat (first | exact Pick.hd | apply Pick.tl)); done)) | apply Sub.drop)); done))) ⟨rfl, _, ⟨mb, ob', .slice ap 0 cp, _, FA', PR, PA, _, hM', hdel, by rw [hn]; exact hR, by rw [hn]; exact hP, rfl⟩, rfl⟩
end
end Go.Proofs.YteejmoldhbfdnaaGreatDoor.Disk
