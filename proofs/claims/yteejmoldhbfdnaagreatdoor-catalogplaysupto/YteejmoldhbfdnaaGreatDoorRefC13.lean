/- warrenref13.Commit, walked. -/
import Derived.Test.YteejmoldhbfdnaaGreatDoorRef13
set_option maxRecDepth 8000
namespace Go.Proofs.YteejmoldhbfdnaaGreatDoor.RefC13
open Go.W Go.RowKit Lib1 Oct OctR Seal Disk Disk2 Wal Num Wal2 Wal3 CatL Cat Cat2 Cat3 Cat4 LogL CInv RefL Ref13
namespace Fx
theorem cal_31 : callable Tryz.prog 31 = true := by kernel_rfl
theorem cal_78 : callable Tryz.prog 78 = true := by kernel_rfl
theorem cal_79 : callable Tryz.prog 79 = true := by kernel_rfl
theorem fld_51_0 : fieldOff Tryz.prog 51 0 = some 0 := by kernel_rfl
theorem fld_51_1 : fieldOff Tryz.prog 51 1 = some 1 := by kernel_rfl
theorem fld_51_2 : fieldOff Tryz.prog 51 2 = some 2 := by kernel_rfl
theorem scal_4 : scalarB Tryz.prog 4 = true := by kernel_rfl
theorem scal_9 : scalarB Tryz.prog 9 = true := by kernel_rfl
theorem sl_39 : slInfo Tryz.prog 39 = some (51, 3, 40, some (.agg #[(S []), (S []), (.bool false)])) := by kernel_rfl
theorem sl_47 : slInfo Tryz.prog 47 = some (74, 2, 32, some (.agg #[(S []), (S [])])) := by kernel_rfl
theorem und_9 : Tryz.prog.underlying 9 = some .string := by kernel_rfl

end Fx
section
variable {e : Ctx} {w : World} {As F : List Hp} {A B L VA : Hp} {es l : List Pr} {cs : List Ch} {v vc u : Value} {key val pre : Str} {m mc : Nat}
/-- What stands behind the reference's Commit. -/
def RefR (es : List Pr) (cs : List Ch) (F : List Hp) (u : Value) (Bs : List Hp) : Prop :=
  ∃ u' A', u = .tuple #[u', .int .i64 (codeF es cs)] ∧ Sl A' 2 u' (pairsOf (if doneF es cs then afterE es cs else es)).length (prs (pairsOf (if doneF es cs then afterE es cs else es))) ∧ Bs = A' :: F
theorem ref_same {k : Int} {n : Nat} (h : codeF es cs = k ∧ doneF es cs = false) (hn : n = (pairsOf es).length) (hv : Sl L 2 v n (prs (pairsOf es))) : RefR es cs F (.tuple #[v, .int .i64 k]) (L :: F) := by
  subst hn
  refine ⟨v, L, by rw [h.1], ?_, rfl⟩
  rw [h.2]; exact hv
theorem ref_bad {k : Int} {n : Nat} (hk : checkF cs = k) (h0 : k ≠ 0) (hn : n = (pairsOf es).length) (hv : Sl L 2 v n (prs (pairsOf es))) : RefR es cs F (.tuple #[v, .int .i64 k]) (L :: F) := by
  subst hk; exact ref_same (bad_code h0) hn hv
theorem ref_done {n : Nat} (h : codeF es cs = 0) (hn : n = (pairsOf (afterE es cs)).length) (hv : Sl L 2 v n (prs (pairsOf (afterE es cs)))) : RefR es cs F (.tuple #[v, .int .i64 0]) (L :: F) := by
  subst hn
  refine ⟨v, L, by rw [h], ?_, rfl⟩
  have : (if doneF es cs = true then afterE es cs else es) = afterE es cs := by
    cases hd : doneF es cs with
    | true => rfl
    | false =>
      have hd' := of_decide_eq_false hd
      unfold codeF at h
      by_cases hc : cs = []
      · subst hc; rfl
      · by_cases hk : checkF cs = 0
        · rw [if_neg (by simp [hk, hc])] at h
          by_cases hf : 10000 < (afterE es cs).length ∨ 500000 < sumB (afterE es cs)
          · rw [if_pos hf] at h; omega
          · exact absurd ⟨hk, hc, by omega, by omega⟩ hd'
        · rw [if_pos (.inl hk)] at h; exact absurd h hk
  rw [this]; exact hv
theorem commit_r (hm : m = (pairsOf es).length) (hmc : mc = cs.length) (hnd : (es.map Prod.fst).Nodup) (hel : es.length ≤ 10000) (hsb : sumB es ≤ 500000) (hcs : (cs.map chW).sum ≤ 600000000)
    (hw : Owns e w As) (hp : Pick As L F) (hL : Sl L 2 v m (prs (pairsOf es))) (hVA : Has e F VA) (hv : Sl VA 3 vc mc (chs cs)) :
    Calls Tryz.prog 25 #[v, vc] w (Ret e (RefR es cs F)) := by
  subst hmc
  have hpl := pairs_len es
  have hn9 := len_chW cs
  have hsl := sumC_le cs
  have hbnd := afterE_sum hnd cs
  refine enter Tryz.func25 rfl Tryz.ntmps25 (hw.pick hp) rfl ?_
  refine Cod.seq ?_
  refine Cod.region ?_
  refine Ops.val (opV_assign rfl) rfl ?_
  refine Ops.val (opV_assign rfl) rfl ?_
  refine Ops.nil ?_
  refine Ex.next ?_
  refine Cod.seq ?_
  refine Cod.region ?_
  refine Ops.val (opV_assign rfl) rfl ?_
  refine Ops.nil ?_
  refine Ex.next ?_
  refine Cod.seq ?_
  refine Cod.seq ?_
  refine Cod.region ?_
  refine Ops.val (opV_assign rfl) rfl ?_
  refine Ops.nil ?_
  refine Ex.next ?_
  refine Cod.block ?_
  refine Cod.loop (X := Nat) (fun i => [(0, v), (1, vc), (6, .int .i64 ((sumC (cs.take i) : Nat) : Int)), (7, .int .i64 (i : Int))]) (fun _ => L :: F) (fun i => i ≤ cs.length) (fun i => cs.length - i) (0) ((Nat.zero_le _)) (by repeat (first | exact trivial | refine ⟨rfl, ?_⟩)) (fun _ h => h.subs (by first | ((repeat (first | exact Sub.refl | exact Sub.nil | apply Sub.emp | (apply Sub.cons; focus ((repeat (first | exact Pick.hd | apply Pick.tl)); done)) | (apply Sub.con; focus ((repeat (first | exact Pick.hd | apply Pick.tl)); done)) | (apply Sub.app; focus ((repeat (first | exact Pick.hd | apply Pick.tl)); done)) | apply Sub.drop)); done) | ((repeat (first | rw [List.append_assoc] | rw [List.cons_append] | rw [List.nil_append] | rw [List.append_nil])); (repeat (first | exact Sub.refl | exact Sub.nil | apply Sub.emp | (apply Sub.cons; focus ((repeat (first | exact Pick.hd | apply Pick.tl)); done)) | (apply Sub.con; focus ((repeat (first | exact Pick.hd | apply Pick.tl)); done)) | (apply Sub.app; focus ((repeat (first | exact Pick.hd | apply Pick.tl)); done)) | apply Sub.drop)); done))) ?_
  rintro i hi
  try dsimp only
  refine Cod.seq ?_
  refine Cod.seq ?_
  refine Cod.region ?_
  refine Ops.val (opV_move rfl) rfl ?_
  refine Ops.val (opV_move rfl) rfl ?_
  refine Ops.val (opV_len Fx.sl_39 rfl hv.isSlice) rfl ?_
  refine Ops.val (opV_lss rfl rfl (by first | exact decide_eq_true (by omega) | exact decide_eq_false (by omega) | rfl)) rfl ?_
  refine Ops.nil ?_
  refine Ex.next ?_
  refine Cod.cond rfl (fun hc => ?_) (fun hc => ?_)
  · try simp at hc
    obtain ⟨x, hx⟩ : ∃ x, cs[i]? = some x := ⟨_, List.getElem?_eq_getElem (by omega)⟩
    have hs := sumC_succ hx
    have hst := sumC_take cs (i + 1)
    refine Cod.skip ?_
    refine Ex.next ?_
    refine Cod.seq ?_
    refine Cod.block ?_
    refine Cod.seq ?_
    refine Cod.region ?_
    refine Ops.val (opV_move rfl) rfl ?_
    refine Ops.val (opV_move rfl) rfl ?_
    refine Ops.val (opV_move rfl) rfl ?_
    refine Ops.val (opV_indexAddr Fx.sl_39 rfl hv (k := i) rfl (by omega)) rfl ?_
    refine Ops.val (opV_fieldE Fx.fld_51_0 rfl hv (by omega)) rfl ?_
    refine Ops.val (opV_loadE Fx.scal_9 rfl hv hVA.up (chs_at hx).1) rfl ?_
    refine Ops.val (opV_slen Fx.und_9 rfl) rfl ?_
    refine Ops.val (opV_add64 rfl rfl (by omega)) rfl ?_
    rw [show ((sumC (cs.take i) : Nat) : Int) + (x.key.length : Int) = ((sumC (cs.take i) + x.key.length : Nat) : Int) by omega]
    refine Ops.val (opV_assign rfl) rfl ?_
    refine Ops.nil ?_
    refine Ex.next ?_
    refine Cod.seq ?_
    refine Cod.region ?_
    refine Ops.val (opV_move rfl) rfl ?_
    refine Ops.val (opV_move rfl) rfl ?_
    refine Ops.val (opV_indexAddr Fx.sl_39 rfl hv (k := i) rfl (by omega)) rfl ?_
    refine Ops.val (opV_fieldE Fx.fld_51_2 rfl hv (by omega)) rfl ?_
    refine Ops.val (opV_loadE Fx.scal_4 rfl hv hVA.up (chs_at hx).2.2) rfl ?_
    refine Ops.val (opV_not rfl) rfl ?_
    refine Ops.nil ?_
    refine Ex.next ?_
    refine Cod.cond rfl (fun hd => ?_) (fun hd => ?_)
    · try simp at hd
      have hd' : x.del = false := by simpa using hd
      rw [hd'] at hs
      refine Cod.region ?_
      refine Ops.val (opV_move rfl) rfl ?_
      refine Ops.val (opV_move rfl) rfl ?_
      refine Ops.val (opV_move rfl) rfl ?_
      refine Ops.val (opV_indexAddr Fx.sl_39 rfl hv (k := i) rfl (by omega)) rfl ?_
      refine Ops.val (opV_fieldE Fx.fld_51_1 rfl hv (by omega)) rfl ?_
      refine Ops.val (opV_loadE Fx.scal_9 rfl hv hVA.up (chs_at hx).2.1) rfl ?_
      refine Ops.val (opV_slen Fx.und_9 rfl) rfl ?_
      refine Ops.val (opV_add64 rfl rfl (by simp only [Bool.false_eq_true, if_false] at hs; omega)) rfl ?_
      have e2 : (((sumC (cs.take i) + x.key.length : Nat) : Int) + (x.val.length : Int)) = ((sumC (cs.take (i + 1)) : Nat) : Int) := by simp only [Bool.false_eq_true, if_false] at hs; omega
      rw [e2]
      refine Ops.val (opV_assign rfl) rfl ?_
      refine Ops.nil ?_
      refine Ex.blockNormal ?_
      refine Ex.next ?_
      refine Cod.region ?_
      refine Ops.val (opV_move rfl) rfl ?_
      refine Ops.val (opV_add64 rfl rfl (by omega)) rfl ?_
      refine Ops.val (opV_assign rfl) rfl ?_
      refine Ops.nil ?_
      refine Ex.toN (fun _ _ hs => ⟨i + 1, (by omega), (by first | omega | (dsimp only; omega) | (simp; omega) | (simp; done)), hs⟩) (by repeat (first | exact trivial | refine ⟨rfl, ?_⟩)) (fun _ h => h.subs (by first | ((repeat (first | exact Sub.refl | exact Sub.nil | apply Sub.emp | (apply Sub.cons; focus ((repeat (first | exact Pick.hd | apply Pick.tl)); done)) | (apply Sub.con; focus ((repeat (first | exact Pick.hd | apply Pick.tl)); done)) | (apply Sub.app; focus ((repeat (first | exact Pick.hd | apply Pick.tl)); done)) | apply Sub.drop)); done) | ((repeat (first | rw [List.append_assoc] | rw [List.cons_append] | rw [List.nil_append] | rw [List.append_nil])); (repeat (first | exact Sub.refl | exact Sub.nil | apply Sub.emp | (apply Sub.cons; focus ((repeat (first | exact Pick.hd | apply Pick.tl)); done)) | (apply Sub.con; focus ((repeat (first | exact Pick.hd | apply Pick.tl)); done)) | (apply Sub.app; focus ((repeat (first | exact Pick.hd | apply Pick.tl)); done)) | apply Sub.drop)); done)))
    · try simp at hd
      have hd' : x.del = true := by simpa using hd
      rw [hd'] at hs
      have e2 : sumC (cs.take i) + x.key.length = sumC (cs.take (i + 1)) := by simp only [if_true] at hs; omega
      rw [e2]
      refine Cod.skip ?_
      refine Ex.blockNormal ?_
      refine Ex.next ?_
      refine Cod.region ?_
      refine Ops.val (opV_move rfl) rfl ?_
      refine Ops.val (opV_add64 rfl rfl (by omega)) rfl ?_
      refine Ops.val (opV_assign rfl) rfl ?_
      refine Ops.nil ?_
      refine Ex.toN (fun _ _ hs => ⟨i + 1, (by omega), (by first | omega | (dsimp only; omega) | (simp; omega) | (simp; done)), hs⟩) (by repeat (first | exact trivial | refine ⟨rfl, ?_⟩)) (fun _ h => h.subs (by first | ((repeat (first | exact Sub.refl | exact Sub.nil | apply Sub.emp | (apply Sub.cons; focus ((repeat (first | exact Pick.hd | apply Pick.tl)); done)) | (apply Sub.con; focus ((repeat (first | exact Pick.hd | apply Pick.tl)); done)) | (apply Sub.app; focus ((repeat (first | exact Pick.hd | apply Pick.tl)); done)) | apply Sub.drop)); done) | ((repeat (first | rw [List.append_assoc] | rw [List.cons_append] | rw [List.nil_append] | rw [List.append_nil])); (repeat (first | exact Sub.refl | exact Sub.nil | apply Sub.emp | (apply Sub.cons; focus ((repeat (first | exact Pick.hd | apply Pick.tl)); done)) | (apply Sub.con; focus ((repeat (first | exact Pick.hd | apply Pick.tl)); done)) | (apply Sub.app; focus ((repeat (first | exact Pick.hd | apply Pick.tl)); done)) | apply Sub.drop)); done)))
  · try simp at hc
    obtain rfl : i = cs.length := by omega
    rw [List.take_length]
    refine Cod.exit ?_
    refine Ex.thenExit ?_
    refine Ex.thenExit ?_
    refine Ex.blockHit ?_
    refine Ex.next ?_
    refine Cod.seq ?_
    refine Cod.seq ?_
    refine Cod.region ?_
    refine Ops.val (opV_move rfl) rfl ?_
    refine Ops.val (opV_len Fx.sl_39 rfl hv.isSlice) rfl ?_
    refine Ops.val (opV_gtr rfl rfl (by first | exact decide_eq_true (by omega) | exact decide_eq_false (by omega) | rfl)) rfl ?_
    refine Ops.val (opV_move rfl) rfl ?_
    refine Ops.cases 42 rfl (fun hlong => ?_) (fun hlong => ?_)
    · skip
      refine Ops.skipg rfl rfl ?_
      refine Ops.skipg rfl rfl ?_
      refine Ops.val (opV_pickT rfl rfl) rfl ?_
      refine Ops.nil ?_
      refine Ex.next ?_
      refine Cod.condT rfl ?_
      refine Cod.seq ?_
      refine Cod.region ?_
      refine Ops.val (opV_move rfl) rfl ?_
      refine Ops.val (opV_assign rfl) rfl ?_
      refine Ops.val (opV_assign rfl) rfl ?_
      refine Ops.nil ?_
      refine Ex.next ?_
      refine Cod.ret ?_
      refine Ex.thenRet ?_
      exact Ex.ret2 rfl rfl rfl (fun _ h => h.subs (by first | ((repeat (first | exact Sub.refl | exact Sub.nil | apply Sub.emp | (apply Sub.cons; focus ((repeat (first | exact Pick.hd | apply Pick.tl)); done)) | (apply Sub.con; focus ((repeat (first | exact Pick.hd | apply Pick.tl)); done)) | (apply Sub.app; focus ((repeat (first | exact Pick.hd | apply Pick.tl)); done)) | apply Sub.drop)); done) | ((repeat (first | rw [List.append_assoc] | rw [List.cons_append] | rw [List.nil_append] | rw [List.append_nil])); (repeat (first | exact Sub.refl | exact Sub.nil | apply Sub.emp | (apply Sub.cons; focus ((repeat (first | exact Pick.hd | apply Pick.tl)); done)) | (apply Sub.con; focus ((repeat (first | exact Pick.hd | apply Pick.tl)); done)) | (apply Sub.app; focus ((repeat (first | exact Pick.hd | apply Pick.tl)); done)) | apply Sub.drop)); done))) (ref_bad (k := 1) (by unfold checkF; rw [if_pos (.inl (by have : (10000 : Int) < (cs.length : Int) := of_decide_eq_true hlong; omega))]) (by decide) hm hL)
    · skip
      refine Ops.valg rfl (opV_move rfl) rfl ?_
      refine Ops.valg rfl (opV_gtr rfl rfl (by first | exact decide_eq_true (by omega) | exact decide_eq_false (by omega) | rfl)) rfl ?_
      refine Ops.val (opV_pickF rfl rfl) rfl ?_
      refine Ops.nil ?_
      refine Ex.next ?_
      refine Cod.cond rfl (fun hbig => ?_) (fun hbig => ?_)
      · try simp at hbig
        refine Cod.seq ?_
        refine Cod.region ?_
        refine Ops.val (opV_move rfl) rfl ?_
        refine Ops.val (opV_assign rfl) rfl ?_
        refine Ops.val (opV_assign rfl) rfl ?_
        refine Ops.nil ?_
        refine Ex.next ?_
        refine Cod.ret ?_
        refine Ex.thenRet ?_
        exact Ex.ret2 rfl rfl rfl (fun _ h => h.subs (by first | ((repeat (first | exact Sub.refl | exact Sub.nil | apply Sub.emp | (apply Sub.cons; focus ((repeat (first | exact Pick.hd | apply Pick.tl)); done)) | (apply Sub.con; focus ((repeat (first | exact Pick.hd | apply Pick.tl)); done)) | (apply Sub.app; focus ((repeat (first | exact Pick.hd | apply Pick.tl)); done)) | apply Sub.drop)); done) | ((repeat (first | rw [List.append_assoc] | rw [List.cons_append] | rw [List.nil_append] | rw [List.append_nil])); (repeat (first | exact Sub.refl | exact Sub.nil | apply Sub.emp | (apply Sub.cons; focus ((repeat (first | exact Pick.hd | apply Pick.tl)); done)) | (apply Sub.con; focus ((repeat (first | exact Pick.hd | apply Pick.tl)); done)) | (apply Sub.app; focus ((repeat (first | exact Pick.hd | apply Pick.tl)); done)) | apply Sub.drop)); done))) (ref_bad (k := 1) (by unfold checkF; rw [if_pos (.inr (by omega))]) (by decide) hm hL)
      · try simp at hbig
        have hno : ¬ (10000 < cs.length ∨ 500000 < sumC cs) := by
            have h1 : ¬ ((10000 : Int) < (cs.length : Int)) := of_decide_eq_false hlong
            omega
        refine Cod.skip ?_
        refine Ex.next ?_
        refine Cod.seq ?_
        refine Cod.region ?_
        refine Ops.val (opV_move rfl) rfl ?_
        refine Ops.val (opV_assign rfl) rfl ?_
        refine Ops.nil ?_
        refine Ex.next ?_
        refine Cod.seq ?_
        refine Cod.seq ?_
        refine Cod.region ?_
        refine Ops.val (opV_assign rfl) rfl ?_
        refine Ops.nil ?_
        refine Ex.next ?_
        refine Cod.block ?_
        refine Cod.loop (X := Nat) (fun i => [(0, v), (1, vc), (8, v), (9, .int .i64 (i : Int))]) (fun _ => L :: F) (fun i => i ≤ cs.length ∧ ∀ c ∈ cs.take i, okKey c) (fun i => cs.length - i) (0) (⟨Nat.zero_le _, by simp⟩) (by repeat (first | exact trivial | refine ⟨rfl, ?_⟩)) (fun _ h => h.subs (by first | ((repeat (first | exact Sub.refl | exact Sub.nil | apply Sub.emp | (apply Sub.cons; focus ((repeat (first | exact Pick.hd | apply Pick.tl)); done)) | (apply Sub.con; focus ((repeat (first | exact Pick.hd | apply Pick.tl)); done)) | (apply Sub.app; focus ((repeat (first | exact Pick.hd | apply Pick.tl)); done)) | apply Sub.drop)); done) | ((repeat (first | rw [List.append_assoc] | rw [List.cons_append] | rw [List.nil_append] | rw [List.append_nil])); (repeat (first | exact Sub.refl | exact Sub.nil | apply Sub.emp | (apply Sub.cons; focus ((repeat (first | exact Pick.hd | apply Pick.tl)); done)) | (apply Sub.con; focus ((repeat (first | exact Pick.hd | apply Pick.tl)); done)) | (apply Sub.app; focus ((repeat (first | exact Pick.hd | apply Pick.tl)); done)) | apply Sub.drop)); done))) ?_
        rintro i ⟨hi, hok⟩
        try dsimp only
        refine Cod.seq ?_
        refine Cod.seq ?_
        refine Cod.region ?_
        refine Ops.val (opV_move rfl) rfl ?_
        refine Ops.val (opV_move rfl) rfl ?_
        refine Ops.val (opV_len Fx.sl_39 rfl hv.isSlice) rfl ?_
        refine Ops.val (opV_lss rfl rfl (by first | exact decide_eq_true (by omega) | exact decide_eq_false (by omega) | rfl)) rfl ?_
        refine Ops.nil ?_
        refine Ex.next ?_
        refine Cod.cond rfl (fun hc2 => ?_) (fun hc2 => ?_)
        · try simp at hc2
          obtain ⟨x, hx⟩ : ∃ x, cs[i]? = some x := ⟨_, List.getElem?_eq_getElem (by omega)⟩
          refine Cod.skip ?_
          refine Ex.next ?_
          refine Cod.seq ?_
          refine Cod.block ?_
          refine Cod.seq ?_
          refine Cod.region ?_
          refine Ops.val (opV_move rfl) rfl ?_
          refine Ops.val (opV_move rfl) rfl ?_
          refine Ops.val (opV_indexAddr Fx.sl_39 rfl hv (k := i) rfl (by omega)) rfl ?_
          refine Ops.val (opV_fieldE Fx.fld_51_0 rfl hv (by omega)) rfl ?_
          refine Ops.val (opV_loadE Fx.scal_9 rfl hv hVA.up (chs_at hx).1) rfl ?_
          refine Ops.val (opV_slen Fx.und_9 rfl) rfl ?_
          refine Ops.val (opV_lss rfl rfl rfl) rfl ?_
          refine Ops.val (opV_move rfl) rfl ?_
          refine Ops.cases 61 rfl (fun hemp => ?_) (fun hemp => ?_)
          · skip
            refine Ops.skipg rfl rfl ?_
            refine Ops.skipg rfl rfl ?_
            refine Ops.skipg rfl rfl ?_
            refine Ops.skipg rfl rfl ?_
            refine Ops.skipg rfl rfl ?_
            refine Ops.skipg rfl rfl ?_
            refine Ops.skipg rfl rfl ?_
            refine Ops.val (opV_pickT rfl rfl) rfl ?_
            refine Ops.nil ?_
            refine Ex.next ?_
            refine Cod.condT rfl ?_
            refine Cod.seq ?_
            refine Cod.region ?_
            refine Ops.val (opV_move rfl) rfl ?_
            refine Ops.val (opV_assign rfl) rfl ?_
            refine Ops.val (opV_assign rfl) rfl ?_
            refine Ops.nil ?_
            refine Ex.next ?_
            refine Cod.ret ?_
            refine Ex.blockRet ?_
            refine Ex.thenRet ?_
            refine Ex.thenRet ?_
            refine Ex.blockRet ?_
            refine Ex.thenRet ?_
            exact Ex.ret2 rfl rfl rfl (fun _ h => h.subs (by first | ((repeat (first | exact Sub.refl | exact Sub.nil | apply Sub.emp | (apply Sub.cons; focus ((repeat (first | exact Pick.hd | apply Pick.tl)); done)) | (apply Sub.con; focus ((repeat (first | exact Pick.hd | apply Pick.tl)); done)) | (apply Sub.app; focus ((repeat (first | exact Pick.hd | apply Pick.tl)); done)) | apply Sub.drop)); done) | ((repeat (first | rw [List.append_assoc] | rw [List.cons_append] | rw [List.nil_append] | rw [List.append_nil])); (repeat (first | exact Sub.refl | exact Sub.nil | apply Sub.emp | (apply Sub.cons; focus ((repeat (first | exact Pick.hd | apply Pick.tl)); done)) | (apply Sub.con; focus ((repeat (first | exact Pick.hd | apply Pick.tl)); done)) | (apply Sub.app; focus ((repeat (first | exact Pick.hd | apply Pick.tl)); done)) | apply Sub.drop)); done))) (ref_bad (k := 130) (by unfold checkF; rw [if_neg hno, if_neg (fun q => (q x (List.mem_of_getElem? hx)).1 (by have := of_decide_eq_true hemp; exact List.eq_nil_of_length_eq_zero (by omega)))]) (by decide) hm hL)
          · skip
            refine Ops.valg rfl (opV_move rfl) rfl ?_
            refine Ops.valg rfl (opV_move rfl) rfl ?_
            refine Ops.valg rfl (opV_indexAddr Fx.sl_39 rfl hv (k := i) rfl (by omega)) rfl ?_
            refine Ops.valg rfl (opV_fieldE Fx.fld_51_0 rfl hv (by omega)) rfl ?_
            refine Ops.valg rfl (opV_loadE Fx.scal_9 rfl hv hVA.up (chs_at hx).1) rfl ?_
            refine Ops.valg rfl (opV_slen Fx.und_9 rfl) rfl ?_
            refine Ops.valg rfl (opV_gtr rfl rfl rfl) rfl ?_
            refine Ops.val (opV_pickF rfl rfl) rfl ?_
            refine Ops.nil ?_
            refine Ex.next ?_
            refine Cod.cond rfl (fun h255 => ?_) (fun h255 => ?_)
            · try simp at h255
              refine Cod.seq ?_
              refine Cod.region ?_
              refine Ops.val (opV_move rfl) rfl ?_
              refine Ops.val (opV_assign rfl) rfl ?_
              refine Ops.val (opV_assign rfl) rfl ?_
              refine Ops.nil ?_
              refine Ex.next ?_
              refine Cod.ret ?_
              refine Ex.blockRet ?_
              refine Ex.thenRet ?_
              refine Ex.thenRet ?_
              refine Ex.blockRet ?_
              refine Ex.thenRet ?_
              exact Ex.ret2 rfl rfl rfl (fun _ h => h.subs (by first | ((repeat (first | exact Sub.refl | exact Sub.nil | apply Sub.emp | (apply Sub.cons; focus ((repeat (first | exact Pick.hd | apply Pick.tl)); done)) | (apply Sub.con; focus ((repeat (first | exact Pick.hd | apply Pick.tl)); done)) | (apply Sub.app; focus ((repeat (first | exact Pick.hd | apply Pick.tl)); done)) | apply Sub.drop)); done) | ((repeat (first | rw [List.append_assoc] | rw [List.cons_append] | rw [List.nil_append] | rw [List.append_nil])); (repeat (first | exact Sub.refl | exact Sub.nil | apply Sub.emp | (apply Sub.cons; focus ((repeat (first | exact Pick.hd | apply Pick.tl)); done)) | (apply Sub.con; focus ((repeat (first | exact Pick.hd | apply Pick.tl)); done)) | (apply Sub.app; focus ((repeat (first | exact Pick.hd | apply Pick.tl)); done)) | apply Sub.drop)); done))) (ref_bad (k := 130) (by unfold checkF; rw [if_neg hno, if_neg (fun q => by have := (q x (List.mem_of_getElem? hx)).2; omega)]) (by decide) hm hL)
            · try simp at h255
              refine Cod.skip ?_
              refine Ex.blockNormal ?_
              refine Ex.next ?_
              refine Cod.region ?_
              refine Ops.val (opV_move rfl) rfl ?_
              refine Ops.val (opV_add64 rfl rfl (by omega)) rfl ?_
              refine Ops.val (opV_assign rfl) rfl ?_
              refine Ops.nil ?_
              refine Ex.toN (fun _ _ hs => ⟨i + 1, ⟨by omega, by rw [List.take_add_one, hx]; intro y hy; rcases List.mem_append.1 hy with hy | hy; exact hok y hy; simp at hy; subst hy; exact ⟨by have := of_decide_eq_false hemp; intro q; rw [q] at this; simp at this, by omega⟩⟩, (by first | omega | (dsimp only; omega) | (simp; omega) | (simp; done)), hs⟩) (by repeat (first | exact trivial | refine ⟨rfl, ?_⟩)) (fun _ h => h.subs (by first | ((repeat (first | exact Sub.refl | exact Sub.nil | apply Sub.emp | (apply Sub.cons; focus ((repeat (first | exact Pick.hd | apply Pick.tl)); done)) | (apply Sub.con; focus ((repeat (first | exact Pick.hd | apply Pick.tl)); done)) | (apply Sub.app; focus ((repeat (first | exact Pick.hd | apply Pick.tl)); done)) | apply Sub.drop)); done) | ((repeat (first | rw [List.append_assoc] | rw [List.cons_append] | rw [List.nil_append] | rw [List.append_nil])); (repeat (first | exact Sub.refl | exact Sub.nil | apply Sub.emp | (apply Sub.cons; focus ((repeat (first | exact Pick.hd | apply Pick.tl)); done)) | (apply Sub.con; focus ((repeat (first | exact Pick.hd | apply Pick.tl)); done)) | (apply Sub.app; focus ((repeat (first | exact Pick.hd | apply Pick.tl)); done)) | apply Sub.drop)); done)))
        · try simp at hc2
          obtain rfl : i = cs.length := by omega
          rw [List.take_length] at hok
          have hck : checkF cs = 0 := by unfold checkF; rw [if_neg hno, if_pos hok]
          refine Cod.exit ?_
          refine Ex.thenExit ?_
          refine Ex.thenExit ?_
          refine Ex.blockHit ?_
          refine Ex.next ?_
          refine Cod.seq ?_
          refine Cod.seq ?_
          refine Cod.region ?_
          refine Ops.val (opV_assign rfl) rfl ?_
          refine Ops.nil ?_
          refine Ex.next ?_
          refine Cod.block ?_
          refine Cod.loop (X := Nat × List Pr × Value × Hp × Hp) (fun (i, es8, u8, X, B) => [(0, v), (1, vc), (8, u8), (10, .int .i64 (i : Int))]) (fun (i, es8, u8, X, B) => X :: L :: F) (fun (i, es8, u8, X, B) => i ≤ cs.length ∧ es8 = afterE es (cs.take i) ∧ (es8.map Prod.fst).Nodup ∧ es8.length ≤ es.length + i ∧ Sl B 2 u8 (pairsOf es8).length (prs (pairsOf es8)) ∧ ((X = [] ∧ B = L) ∨ B = X)) (fun (i, es8, u8, X, B) => cs.length - i) ((0, es, v, [], L)) (⟨Nat.zero_le _, rfl, hnd, Nat.le_refl _, hm ▸ hL, .inl ⟨rfl, rfl⟩⟩) (by repeat (first | exact trivial | refine ⟨rfl, ?_⟩)) (fun _ h => h.subs (by first | ((repeat (first | exact Sub.refl | exact Sub.nil | apply Sub.emp | (apply Sub.cons; focus ((repeat (first | exact Pick.hd | apply Pick.tl)); done)) | (apply Sub.con; focus ((repeat (first | exact Pick.hd | apply Pick.tl)); done)) | (apply Sub.app; focus ((repeat (first | exact Pick.hd | apply Pick.tl)); done)) | apply Sub.drop)); done) | ((repeat (first | rw [List.append_assoc] | rw [List.cons_append] | rw [List.nil_append] | rw [List.append_nil])); (repeat (first | exact Sub.refl | exact Sub.nil | apply Sub.emp | (apply Sub.cons; focus ((repeat (first | exact Pick.hd | apply Pick.tl)); done)) | (apply Sub.con; focus ((repeat (first | exact Pick.hd | apply Pick.tl)); done)) | (apply Sub.app; focus ((repeat (first | exact Pick.hd | apply Pick.tl)); done)) | apply Sub.drop)); done))) ?_
          rintro ⟨i, es8, u8, X, B⟩ ⟨hi, he8, hn8, hl8, hB, hXB⟩
          try dsimp only
          have hp8 := pairs_len es8
          refine Cod.seq ?_
          refine Cod.seq ?_
          refine Cod.region ?_
          refine Ops.val (opV_move rfl) rfl ?_
          refine Ops.val (opV_move rfl) rfl ?_
          refine Ops.val (opV_len Fx.sl_39 rfl hv.isSlice) rfl ?_
          refine Ops.val (opV_lss rfl rfl (by first | exact decide_eq_true (by omega) | exact decide_eq_false (by omega) | rfl)) rfl ?_
          refine Ops.nil ?_
          refine Ex.next ?_
          refine Cod.cond rfl (fun hc3 => ?_) (fun hc3 => ?_)
          · try simp at hc3
            obtain ⟨x, hx⟩ : ∃ x, cs[i]? = some x := ⟨_, List.getElem?_eq_getElem (by omega)⟩
            have hBh : Has e (X :: L :: F) B := by
                rcases hXB with ⟨_, rfl⟩ | rfl
                · exact .mem (.tail _ (.head _))
                · exact .mem (.head _)
            have hap := apL_pairs hn8 x
            have hal := apE_len hn8 (c := x)
            have hes : afterE es (cs.take (i + 1)) = apE es8 x := by rw [List.take_add_one, hx, he8, afterE_append]; rfl
            refine Cod.skip ?_
            refine Ex.next ?_
            refine Cod.seq ?_
            refine Cod.block ?_
            refine Cod.seq ?_
            refine Cod.region ?_
            refine Ops.val (opV_move rfl) rfl ?_
            refine Ops.val (opV_move rfl) rfl ?_
            refine Ops.val (opV_indexAddr Fx.sl_39 rfl hv (k := i) rfl (by omega)) rfl ?_
            refine Ops.val (opV_fieldE Fx.fld_51_2 rfl hv (by omega)) rfl ?_
            refine Ops.val (opV_loadE Fx.scal_4 rfl hv hVA.up.up (chs_at hx).2.2) rfl ?_
            refine Ops.nil ?_
            refine Ex.next ?_
            refine Cod.cond rfl (fun hd => ?_) (fun hd => ?_)
            · try simp at hd
              unfold apL at hap
              rw [if_pos hd] at hap
              refine Cod.region ?_
              refine Ops.val (opV_move rfl) rfl ?_
              refine Ops.val (opV_move rfl) rfl ?_
              refine Ops.val (opV_move rfl) rfl ?_
              refine Ops.val (opV_indexAddr Fx.sl_39 rfl hv (k := i) rfl (by omega)) rfl ?_
              refine Ops.val (opV_fieldE Fx.fld_51_0 rfl hv (by omega)) rfl ?_
              refine Ops.val (opV_loadE Fx.scal_9 rfl hv hVA.up.up (chs_at hx).1) rfl ?_
              refine Ops.call rfl (opC_call Fx.cal_78 rfl (fun w hw => del_r rfl (by omega) hw hBh hB)) rfl ?_
              rintro v88 _ ⟨A88, hA88, rfl⟩
              rw [hap] at hA88
              refine Ops.val (opV_assign rfl) rfl ?_
              refine Ops.nil ?_
              refine Ex.blockNormal ?_
              refine Ex.next ?_
              refine Cod.region ?_
              refine Ops.val (opV_move rfl) rfl ?_
              refine Ops.val (opV_add64 rfl rfl (by omega)) rfl ?_
              refine Ops.val (opV_assign rfl) rfl ?_
              refine Ops.nil ?_
              refine Ex.toN (fun _ _ hs => ⟨(i + 1, apE es8 x, v88, A88, A88), ⟨by dsimp only; omega, hes.symm, apE_nodup hn8, by dsimp only; omega, hA88.sl, .inr rfl⟩, (by first | omega | (dsimp only; omega) | (simp; omega) | (simp; done)), hs⟩) (by repeat (first | exact trivial | refine ⟨rfl, ?_⟩)) (fun _ h => h.subs (by first | ((repeat (first | exact Sub.refl | exact Sub.nil | apply Sub.emp | (apply Sub.cons; focus ((repeat (first | exact Pick.hd | apply Pick.tl)); done)) | (apply Sub.con; focus ((repeat (first | exact Pick.hd | apply Pick.tl)); done)) | (apply Sub.app; focus ((repeat (first | exact Pick.hd | apply Pick.tl)); done)) | apply Sub.drop)); done) | ((repeat (first | rw [List.append_assoc] | rw [List.cons_append] | rw [List.nil_append] | rw [List.append_nil])); (repeat (first | exact Sub.refl | exact Sub.nil | apply Sub.emp | (apply Sub.cons; focus ((repeat (first | exact Pick.hd | apply Pick.tl)); done)) | (apply Sub.con; focus ((repeat (first | exact Pick.hd | apply Pick.tl)); done)) | (apply Sub.app; focus ((repeat (first | exact Pick.hd | apply Pick.tl)); done)) | apply Sub.drop)); done)))
            · try simp at hd
              simp only [apL, hd, Bool.false_eq_true, if_false] at hap
              refine Cod.draw [5, 10] [0, 1, 2, 3, 4, 6, 7, 8, 9, 12] (X :: L :: F) [0, 1, 2, 3, 4, 5, 6, 7, 8, 9, 10, 11, 12] M.mixed (by kernel_rfl) ?_
              refine AnyJ.valU rfl rfl rfl (opV_move rfl) rfl (fun _ _ _ h => h.2.elim) ?_
              refine AnyJ.valU rfl rfl rfl (opV_move rfl) rfl (fun _ _ _ h => h.2.elim) ?_
              refine AnyJ.valU rfl rfl rfl (opV_move rfl) rfl (fun _ _ _ h => h.2.elim) ?_
              refine AnyJ.valU rfl rfl rfl (opV_indexAddr Fx.sl_39 rfl hv (k := i) rfl (by omega)) rfl (fun _ _ _ h => h.2.elim) ?_
              refine AnyJ.valU rfl rfl rfl (opV_fieldE Fx.fld_51_0 rfl hv (by omega)) rfl (fun _ _ _ h => h.2.elim) ?_
              refine AnyJ.val rfl rfl (opV_loadE Fx.scal_9 rfl hv hVA.up.up (chs_at hx).1) rfl (fun _ _ _ h => h.2.elim) (fun _ h => h.subs (by first | ((repeat (first | exact Sub.refl | exact Sub.nil | apply Sub.emp | (apply Sub.cons; focus ((repeat (first | exact Pick.hd | apply Pick.tl)); done)) | (apply Sub.con; focus ((repeat (first | exact Pick.hd | apply Pick.tl)); done)) | (apply Sub.app; focus ((repeat (first | exact Pick.hd | apply Pick.tl)); done)) | apply Sub.drop)); done) | ((repeat (first | rw [List.append_assoc] | rw [List.cons_append] | rw [List.nil_append] | rw [List.append_nil])); (repeat (first | exact Sub.refl | exact Sub.nil | apply Sub.emp | (apply Sub.cons; focus ((repeat (first | exact Pick.hd | apply Pick.tl)); done)) | (apply Sub.con; focus ((repeat (first | exact Pick.hd | apply Pick.tl)); done)) | (apply Sub.app; focus ((repeat (first | exact Pick.hd | apply Pick.tl)); done)) | apply Sub.drop)); done))) ?_
              refine AnyJ.valU rfl rfl rfl (opV_move rfl) rfl (fun _ _ _ h => h.2.elim) ?_
              refine AnyJ.valU rfl rfl rfl (opV_move rfl) rfl (fun _ _ _ h => h.2.elim) ?_
              refine AnyJ.valU rfl rfl rfl (opV_indexAddr Fx.sl_39 rfl hv (k := i) rfl (by omega)) rfl (fun _ _ _ h => h.2.elim) ?_
              refine AnyJ.valU rfl rfl rfl (opV_fieldE Fx.fld_51_1 rfl hv (by omega)) rfl (fun _ _ _ h => h.2.elim) ?_
              refine AnyJ.val rfl rfl (opV_loadE Fx.scal_9 rfl hv hVA.up.up (chs_at hx).2.1) rfl (fun _ _ _ h => h.2.elim) (fun _ h => h.subs (by first | ((repeat (first | exact Sub.refl | exact Sub.nil | apply Sub.emp | (apply Sub.cons; focus ((repeat (first | exact Pick.hd | apply Pick.tl)); done)) | (apply Sub.con; focus ((repeat (first | exact Pick.hd | apply Pick.tl)); done)) | (apply Sub.app; focus ((repeat (first | exact Pick.hd | apply Pick.tl)); done)) | apply Sub.drop)); done) | ((repeat (first | rw [List.append_assoc] | rw [List.cons_append] | rw [List.nil_append] | rw [List.append_nil])); (repeat (first | exact Sub.refl | exact Sub.nil | apply Sub.emp | (apply Sub.cons; focus ((repeat (first | exact Pick.hd | apply Pick.tl)); done)) | (apply Sub.con; focus ((repeat (first | exact Pick.hd | apply Pick.tl)); done)) | (apply Sub.app; focus ((repeat (first | exact Pick.hd | apply Pick.tl)); done)) | apply Sub.drop)); done))) ?_
              refine AnyJ.call rfl rfl (opC_call Fx.cal_79 rfl (fun w hw => put_r rfl (by omega) (pairs_srt hn8) hw hBh hB)) rfl ?_
              rintro v100 _ ⟨A100, hA100, rfl⟩
              refine ⟨(by first | (intro _ _ h; refine h.subs ?_; (repeat (first | exact Sub.refl | exact Sub.nil | apply Sub.emp | (apply Sub.cons; focus ((repeat (first | exact Pick.hd | apply Pick.tl)); done)) | (apply Sub.con; focus ((repeat (first | exact Pick.hd | apply Pick.tl)); done)) | (apply Sub.app; focus ((repeat (first | exact Pick.hd | apply Pick.tl)); done)) | apply Sub.drop)); done) | exact lead_no (by kernel_rfl)), ?_⟩
              rw [hap] at hA100
              refine AnyJ.valU rfl rfl rfl (opV_assign rfl) rfl (fun _ _ _ h => h.2.elim) ?_
              refine AnyJ.nil ?_
              refine Ex.blockNormal ?_
              refine Ex.next ?_
              refine Cod.region ?_
              refine Ops.val (opV_move rfl) rfl ?_
              refine Ops.val (opV_add64 rfl rfl (by omega)) rfl ?_
              refine Ops.val (opV_assign rfl) rfl ?_
              refine Ops.nil ?_
              refine Ex.toN (fun _ _ hs => ⟨(i + 1, apE es8 x, v100, A100, A100), ⟨by dsimp only; omega, hes.symm, apE_nodup hn8, by dsimp only; omega, hA100.sl, .inr rfl⟩, (by first | omega | (dsimp only; omega) | (simp; omega) | (simp; done)), hs⟩) (by repeat (first | exact trivial | refine ⟨rfl, ?_⟩)) (fun _ h => h.subs (by first | ((repeat (first | exact Sub.refl | exact Sub.nil | apply Sub.emp | (apply Sub.cons; focus ((repeat (first | exact Pick.hd | apply Pick.tl)); done)) | (apply Sub.con; focus ((repeat (first | exact Pick.hd | apply Pick.tl)); done)) | (apply Sub.app; focus ((repeat (first | exact Pick.hd | apply Pick.tl)); done)) | apply Sub.drop)); done) | ((repeat (first | rw [List.append_assoc] | rw [List.cons_append] | rw [List.nil_append] | rw [List.append_nil])); (repeat (first | exact Sub.refl | exact Sub.nil | apply Sub.emp | (apply Sub.cons; focus ((repeat (first | exact Pick.hd | apply Pick.tl)); done)) | (apply Sub.con; focus ((repeat (first | exact Pick.hd | apply Pick.tl)); done)) | (apply Sub.app; focus ((repeat (first | exact Pick.hd | apply Pick.tl)); done)) | apply Sub.drop)); done)))
          · try simp at hc3
            obtain rfl : i = cs.length := by omega
            rw [List.take_length] at he8
            have hBh : Has e (X :: L :: F) B := by
                rcases hXB with ⟨_, rfl⟩ | rfl
                · exact .mem (.tail _ (.head _))
                · exact .mem (.head _)
            have hsp : sumB (pairsOf es8) = sumB es8 := sumB_perm (pairsOf_perm hn8)
            subst he8
            refine Cod.exit ?_
            refine Ex.thenExit ?_
            refine Ex.thenExit ?_
            refine Ex.blockHit ?_
            refine Ex.next ?_
            refine Cod.seq ?_
            refine Cod.seq ?_
            refine Cod.region ?_
            refine Ops.val (opV_move rfl) rfl ?_
            refine Ops.val (opV_len Fx.sl_47 rfl hB.isSlice) rfl ?_
            refine Ops.val (opV_gtr rfl rfl rfl) rfl ?_
            refine Ops.val (opV_move rfl) rfl ?_
            refine Ops.cases 104 rfl (fun hful => ?_) (fun hful => ?_)
            · skip
              refine Ops.skipg rfl rfl ?_
              refine Ops.skipg rfl rfl ?_
              refine Ops.skipg rfl rfl ?_
              refine Ops.val (opV_pickT rfl rfl) rfl ?_
              refine Ops.nil ?_
              refine Ex.next ?_
              refine Cod.condT rfl ?_
              have hfl : 10000 < (afterE es cs).length := by have : (10000 : Int) < ((pairsOf (afterE es cs)).length : Int) := of_decide_eq_true hful; omega
              refine Cod.seq ?_
              refine Cod.region ?_
              refine Ops.val (opV_move rfl) rfl ?_
              refine Ops.val (opV_assign rfl) rfl ?_
              refine Ops.val (opV_assign rfl) rfl ?_
              refine Ops.nil ?_
              refine Ex.next ?_
              refine Cod.ret ?_
              refine Ex.thenRet ?_
              exact Ex.ret2 rfl rfl rfl (fun _ h => h.subs (by first | ((repeat (first | exact Sub.refl | exact Sub.nil | apply Sub.emp | (apply Sub.cons; focus ((repeat (first | exact Pick.hd | apply Pick.tl)); done)) | (apply Sub.con; focus ((repeat (first | exact Pick.hd | apply Pick.tl)); done)) | (apply Sub.app; focus ((repeat (first | exact Pick.hd | apply Pick.tl)); done)) | apply Sub.drop)); done) | ((repeat (first | rw [List.append_assoc] | rw [List.cons_append] | rw [List.nil_append] | rw [List.append_nil])); (repeat (first | exact Sub.refl | exact Sub.nil | apply Sub.emp | (apply Sub.cons; focus ((repeat (first | exact Pick.hd | apply Pick.tl)); done)) | (apply Sub.con; focus ((repeat (first | exact Pick.hd | apply Pick.tl)); done)) | (apply Sub.app; focus ((repeat (first | exact Pick.hd | apply Pick.tl)); done)) | apply Sub.drop)); done))) (ref_same (full_code hck (by rintro rfl; simp [afterE] at hfl; omega) (.inl hfl)) hm hL)
            · skip
              refine Ops.valg rfl (opV_move rfl) rfl ?_
              refine Ops.call rfl (opC_call Fx.cal_31 rfl (fun w hw => bytes_r rfl (by omega) (by omega) hw hBh hB)) rfl ?_
              rintro v106 _ ⟨rfl, rfl⟩
              refine Ops.valg rfl (opV_gtr rfl rfl (by first | exact decide_eq_true (by omega) | exact decide_eq_false (by omega) | rfl)) rfl ?_
              refine Ops.val (opV_pickF rfl rfl) rfl ?_
              refine Ops.nil ?_
              refine Ex.next ?_
              refine Cod.cond rfl (fun hfb => ?_) (fun hfb => ?_)
              · try simp at hfb
                have hfl : 500000 < sumB (afterE es cs) := by omega
                refine Cod.seq ?_
                refine Cod.region ?_
                refine Ops.val (opV_move rfl) rfl ?_
                refine Ops.val (opV_assign rfl) rfl ?_
                refine Ops.val (opV_assign rfl) rfl ?_
                refine Ops.nil ?_
                refine Ex.next ?_
                refine Cod.ret ?_
                refine Ex.thenRet ?_
                exact Ex.ret2 rfl rfl rfl (fun _ h => h.subs (by first | ((repeat (first | exact Sub.refl | exact Sub.nil | apply Sub.emp | (apply Sub.cons; focus ((repeat (first | exact Pick.hd | apply Pick.tl)); done)) | (apply Sub.con; focus ((repeat (first | exact Pick.hd | apply Pick.tl)); done)) | (apply Sub.app; focus ((repeat (first | exact Pick.hd | apply Pick.tl)); done)) | apply Sub.drop)); done) | ((repeat (first | rw [List.append_assoc] | rw [List.cons_append] | rw [List.nil_append] | rw [List.append_nil])); (repeat (first | exact Sub.refl | exact Sub.nil | apply Sub.emp | (apply Sub.cons; focus ((repeat (first | exact Pick.hd | apply Pick.tl)); done)) | (apply Sub.con; focus ((repeat (first | exact Pick.hd | apply Pick.tl)); done)) | (apply Sub.app; focus ((repeat (first | exact Pick.hd | apply Pick.tl)); done)) | apply Sub.drop)); done))) (ref_same (full_code hck (by rintro rfl; simp [afterE] at hfl; omega) (.inr hfl)) hm hL)
              · try simp at hfb
                have h0 : codeF es cs = 0 := by
                    have h1 : ¬ ((10000 : Int) < ((pairsOf (afterE es cs)).length : Int)) := of_decide_eq_false hful
                    by_cases hc : cs = []
                    · rw [(nil_code hc).1]; exact hck
                    · exact (done_code hck hc (by omega)).1
                rcases hXB with ⟨rfl, rfl⟩ | rfl
                · skip
                  refine Cod.skip ?_
                  refine Ex.next ?_
                  refine Cod.seq ?_
                  refine Cod.region ?_
                  refine Ops.val (opV_move rfl) rfl ?_
                  refine Ops.val (opV_assign rfl) rfl ?_
                  refine Ops.val (opV_assign rfl) rfl ?_
                  refine Ops.nil ?_
                  refine Ex.next ?_
                  refine Cod.ret ?_
                  exact Ex.ret2 rfl rfl rfl (fun _ h => h.subs (by first | ((repeat (first | exact Sub.refl | exact Sub.nil | apply Sub.emp | (apply Sub.cons; focus ((repeat (first | exact Pick.hd | apply Pick.tl)); done)) | (apply Sub.con; focus ((repeat (first | exact Pick.hd | apply Pick.tl)); done)) | (apply Sub.app; focus ((repeat (first | exact Pick.hd | apply Pick.tl)); done)) | apply Sub.drop)); done) | ((repeat (first | rw [List.append_assoc] | rw [List.cons_append] | rw [List.nil_append] | rw [List.append_nil])); (repeat (first | exact Sub.refl | exact Sub.nil | apply Sub.emp | (apply Sub.cons; focus ((repeat (first | exact Pick.hd | apply Pick.tl)); done)) | (apply Sub.con; focus ((repeat (first | exact Pick.hd | apply Pick.tl)); done)) | (apply Sub.app; focus ((repeat (first | exact Pick.hd | apply Pick.tl)); done)) | apply Sub.drop)); done))) (ref_done h0 rfl hB)
                · skip
                  refine Cod.skip ?_
                  refine Ex.next ?_
                  refine Cod.seq ?_
                  refine Cod.region ?_
                  refine Ops.val (opV_move rfl) rfl ?_
                  refine Ops.val (opV_assign rfl) rfl ?_
                  refine Ops.val (opV_assign rfl) rfl ?_
                  refine Ops.nil ?_
                  refine Ex.next ?_
                  refine Cod.ret ?_
                  exact Ex.ret2 rfl rfl rfl (fun _ h => h.subs (by first | ((repeat (first | exact Sub.refl | exact Sub.nil | apply Sub.emp | (apply Sub.cons; focus ((repeat (first | exact Pick.hd | apply Pick.tl)); done)) | (apply Sub.con; focus ((repeat (first | exact Pick.hd | apply Pick.tl)); done)) | (apply Sub.app; focus ((repeat (first | exact Pick.hd | apply Pick.tl)); done)) | apply Sub.drop)); done) | ((repeat (first | rw [List.append_assoc] | rw [List.cons_append] | rw [List.nil_append] | rw [List.append_nil])); (repeat (first | exact Sub.refl | exact Sub.nil | apply Sub.emp | (apply Sub.cons; focus ((repeat (first | exact Pick.hd | apply Pick.tl)); done)) | (apply Sub.con; focus ((repeat (first | exact Pick.hd | apply Pick.tl)); done)) | (apply Sub.app; focus ((repeat (first | exact Pick.hd | apply Pick.tl)); done)) | apply Sub.drop)); done))) (ref_done h0 rfl hB)
end
end Go.Proofs.YteejmoldhbfdnaaGreatDoor.RefC13
