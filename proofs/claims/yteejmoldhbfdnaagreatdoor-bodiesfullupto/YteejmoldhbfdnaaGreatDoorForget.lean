/- slices.DeleteFunc at []write; forget, Remove with writes that wait; Drop. -/
import Derived.Test.YteejmoldhbfdnaaGreatDoorWal2
set_option maxRecDepth 8000
namespace Go.Proofs.YteejmoldhbfdnaaGreatDoor.Forget
open Go.W Go.RowKit Lib1 Oct OctR Seal Disk Disk2 Wal Num Wal2
namespace Fx
theorem agg_166 : aggSz Tryz.prog 166 = some 3 := by kernel_rfl
theorem cal_147 : callable Tryz.prog 147 = true := by kernel_rfl
theorem cal_149 : callable Tryz.prog 149 = true := by kernel_rfl
theorem cal_212 : callable Tryz.prog 212 = true := by kernel_rfl
theorem cal_257 : callable Tryz.prog 257 = true := by kernel_rfl
theorem cal_258 : callable Tryz.prog 258 = true := by kernel_rfl
theorem cal_312 : callable Tryz.prog 312 = true := by kernel_rfl
theorem fld_144_0 : fieldOff Tryz.prog 144 0 = some 0 := by kernel_rfl
theorem fld_144_1 : fieldOff Tryz.prog 144 1 = some 1 := by kernel_rfl
theorem fld_144_3 : fieldOff Tryz.prog 144 3 = some 3 := by kernel_rfl
theorem fld_163_0 : fieldOff Tryz.prog 163 0 = some 0 := by kernel_rfl
theorem fld_166_0 : fieldOff Tryz.prog 166 0 = some 0 := by kernel_rfl
theorem fld_228_0 : fieldOff Tryz.prog 228 0 = some 0 := by kernel_rfl
theorem fld_228_2 : fieldOff Tryz.prog 228 2 = some 2 := by kernel_rfl
theorem map_141 : mapInfo Tryz.prog 141 = some (.string, (.pointer none)) := by kernel_rfl
theorem ptr_161 : ptrT Tryz.prog 161 = true := by kernel_rfl
theorem scal_141 : scalarB Tryz.prog 141 = true := by kernel_rfl
theorem scal_142 : scalarB Tryz.prog 142 = true := by kernel_rfl
theorem scal_24 : scalarB Tryz.prog 24 = true := by kernel_rfl
theorem scal_29 : scalarB Tryz.prog 29 = true := by kernel_rfl
theorem scal_3 : scalarB Tryz.prog 3 = true := by kernel_rfl
theorem scal_9 : scalarB Tryz.prog 9 = true := by kernel_rfl
theorem sl_142 : slInfo Tryz.prog 142 = some (166, 3, 48, some (.agg #[(S []), (.int .i64 0), (.slice none 0 0)])) := by kernel_rfl
theorem sl_29 : slInfo Tryz.prog 29 = some (5, 1, 1, some (.int .u8 0)) := by kernel_rfl
theorem sz1_142 : (Tryz.prog.info? 142).map (·.size) = some 1 := by kernel_rfl
theorem sz1_3 : (Tryz.prog.info? 3).map (·.size) = some 1 := by kernel_rfl
theorem zero_166 : (Tryz.prog.info? 166).bind (·.zero) = some (.agg #[(S []), (.int .i64 0), (.slice none 0 0)]) := by kernel_rfl

end Fx
abbrev Qw := Value × (Str × Nat × Str)
def q3 (x : Qw) : List Value := [S x.2.1, .int .i64 (x.2.2.1 : Int), x.1]
def flat (qs : List Qw) : List Value := (qs.map q3).flatten
theorem flat_len (qs : List Qw) : (flat qs).length = qs.length * 3 := by
  induction qs with
  | nil => rfl
  | cons x xs ih => simp [flat, q3] at ih ⊢; omega
theorem flat_append (a b : List Qw) : flat (a ++ b) = flat a ++ flat b := by simp [flat]
theorem flat_take (qs : List Qw) (i : Nat) : (flat qs).take (i * 3) = flat (qs.take i) := by
  induction qs generalizing i with
  | nil => simp [flat]
  | cons x xs ih =>
    cases i with
    | zero => simp [flat]
    | succ i =>
      have := ih i
      rw [show (i + 1) * 3 = i * 3 + 3 by omega]
      simp only [flat, List.map_cons, List.flatten_cons, List.take_succ_cons, q3, List.cons_append, List.nil_append] at this ⊢
      rw [this]
theorem flat_drop (qs : List Qw) (i : Nat) : (flat qs).drop (i * 3) = flat (qs.drop i) := by
  induction qs generalizing i with
  | nil => simp [flat]
  | cons x xs ih =>
    cases i with
    | zero => simp [flat]
    | succ i =>
      have := ih i
      rw [show (i + 1) * 3 = i * 3 + 3 by omega]
      simp only [flat, List.map_cons, List.flatten_cons, List.drop_succ_cons, q3, List.cons_append, List.nil_append] at this ⊢
      exact this
theorem PLqs {A : Hp} {ps : List Value} {ws : List (Str × Nat × Str)} (h : PL A ps ws) : ∃ qs : List Qw, qs.map Prod.snd = ws ∧ ps = flat qs ∧ ∀ x ∈ qs, Sl A 1 x.1 x.2.2.2.length (bcells x.2.2.2) := by
  induction h with
  | nil => exact ⟨[], rfl, rfl, by simp⟩
  | @cons nm d at_ dv vs ws h _ ih =>
    obtain ⟨qs, h1, h2, h3⟩ := ih
    refine ⟨(dv, nm, at_, d) :: qs, by simp [h1], by simp [flat, q3, h2], ?_⟩
    intro x hx
    rcases List.mem_cons.1 hx with rfl | hx
    · exact h
    · exact h3 x hx
theorem PLof {A : Hp} : ∀ {qs : List Qw}, (∀ x ∈ qs, Sl A 1 x.1 x.2.2.2.length (bcells x.2.2.2)) → PL A (flat qs) (qs.map Prod.snd)
  | [], _ => .nil
  | (_, _, _, _) :: _, h => .cons (h _ (.head _)) (PLof fun x hx => h x (.tail _ hx))
section
variable {e : Ctx} {w : World} {As F G : List Hp} {A B : Hp} {p q : Nat} {nm : Str} {v : Value} {qs : List Qw} {x : Qw} {D : DK}
abbrev nclo (q : Nat) : Value := .func (.func 258) #[] #[.pointer (some ⟨q, 0, none⟩)]
abbrev nameB (q : Nat) (nm : Str) : Hp := [(q, .cells #[S nm] 9)]
theorem tellsName {a : Int} {dv : Value} {nm' : Str} (_h1 : dv.oneCell' = true) (hw : Owns e w As) (hA : Has e As (nameB q nm)) :
    Calls Tryz.prog 258 #[.agg #[S nm', .int .i64 a, dv], .pointer (some ⟨q, 0, none⟩)] w (Ret e fun u Bs => u = .bool (decide (nm' = nm)) ∧ Bs = As) := by
  refine enter Tryz.func258 rfl Tryz.ntmps258 hw rfl ?_
  refine Cod.seq ?_
  refine Cod.region ?_
  refine Ops.eff rfl (opE_box rfl) rfl ?_
  rintro _ _ ⟨b2, rfl, rfl⟩
  refine Ops.val (opV_assign rfl) rfl ?_
  refine Ops.nil ?_
  refine Ex.next ?_
  refine Cod.seq ?_
  refine Cod.region ?_
  refine Ops.val (opV_field Fx.fld_166_0 rfl) rfl ?_
  refine Ops.val (opV_load Fx.scal_9 rfl ((by repeat (first | exact Cell.one rfl | assumption | apply Cell.tl)))) rfl ?_
  refine Ops.val (opV_load Fx.scal_9 rfl (cellOf hA.up (List.Mem.head _) rfl)) rfl ?_
  refine Ops.val (opV_seql rfl rfl rfl) rfl ?_
  refine Ops.val (opV_assign rfl) rfl ?_
  refine Ops.nil ?_
  refine Ex.next ?_
  refine Cod.ret ?_
  exact Ex.ret1 rfl rfl (fun _ h => h.subs (by first | ((repeat (first | exact Sub.refl | exact Sub.nil | apply Sub.emp | (apply Sub.cons; focus ((repeat (first | exact Pick.hd | apply Pick.tl)); done)) | (apply Sub.con; focus ((repeat (first | exact Pick.hd | apply Pick.tl)); done)) | (apply Sub.app; focus ((repeat (first | exact Pick.hd | apply Pick.tl)); done)) | apply Sub.drop)); done) | ((repeat (first | rw [List.append_assoc] | rw [List.cons_append] | rw [List.nil_append] | rw [List.append_nil])); (repeat (first | exact Sub.refl | exact Sub.nil | apply Sub.emp | (apply Sub.cons; focus ((repeat (first | exact Pick.hd | apply Pick.tl)); done)) | (apply Sub.con; focus ((repeat (first | exact Pick.hd | apply Pick.tl)); done)) | (apply Sub.app; focus ((repeat (first | exact Pick.hd | apply Pick.tl)); done)) | apply Sub.drop)); done))) ⟨rfl, rfl⟩
theorem indexName (hw : Owns e w As) (hC : Has e As (nameB q nm)) {m : Nat} (hm : m = qs.length) (hl : qs.length ≤ 1000000000) (h1 : ∀ x ∈ qs, x.1.oneCell' = true) (hA : Has e As A) (hv : Sl A 3 v m (flat qs)) :
    Calls Tryz.prog 312 #[v, nclo q] w (Ret e fun u Bs => ∃ r : Int, u = .int .i64 r ∧ ((r = -1 ∧ ∀ x ∈ qs, x.2.1 ≠ nm) ∨ ∃ k : Nat, r = (k : Int) ∧ k < qs.length ∧ (∃ x, qs[k]? = some x ∧ x.2.1 = nm) ∧ ∀ x ∈ qs.take k, x.2.1 ≠ nm) ∧ Bs = As) := by
  subst hm
  refine enter Tryz.func312 rfl Tryz.ntmps312 hw rfl ?_
  refine Cod.seq ?_
  refine Cod.region ?_
  refine Ops.val (opV_assign rfl) rfl ?_
  refine Ops.nil ?_
  refine Ex.next ?_
  refine Cod.seq ?_
  refine Cod.seq ?_
  refine Cod.region ?_
  refine Ops.val (opV_move rfl) rfl ?_
  refine Ops.val (opV_len Fx.sl_142 rfl hv.isSlice) rfl ?_
  refine Ops.val (opV_move rfl) rfl ?_
  refine Ops.nil ?_
  refine Ex.next ?_
  refine Cod.block ?_
  refine Cod.loop (X := Nat) (fun i => [(0, v), (1, nclo q), (7, .int .i64 qs.length), (8, .int .i64 (i : Int))]) (fun i => As) (fun i => i ≤ qs.length ∧ ∀ x ∈ qs.take i, x.2.1 ≠ nm) (fun i => qs.length - i) (0) (⟨Nat.zero_le _, by simp⟩) (by repeat (first | exact trivial | refine ⟨rfl, ?_⟩)) (fun _ h => h.subs (by first | ((repeat (first | exact Sub.refl | exact Sub.nil | apply Sub.emp | (apply Sub.cons; focus ((repeat (first | exact Pick.hd | apply Pick.tl)); done)) | (apply Sub.con; focus ((repeat (first | exact Pick.hd | apply Pick.tl)); done)) | (apply Sub.app; focus ((repeat (first | exact Pick.hd | apply Pick.tl)); done)) | apply Sub.drop)); done) | ((repeat (first | rw [List.append_assoc] | rw [List.cons_append] | rw [List.nil_append] | rw [List.append_nil])); (repeat (first | exact Sub.refl | exact Sub.nil | apply Sub.emp | (apply Sub.cons; focus ((repeat (first | exact Pick.hd | apply Pick.tl)); done)) | (apply Sub.con; focus ((repeat (first | exact Pick.hd | apply Pick.tl)); done)) | (apply Sub.app; focus ((repeat (first | exact Pick.hd | apply Pick.tl)); done)) | apply Sub.drop)); done))) ?_
  rintro i ⟨hi, ht⟩
  try dsimp only
  refine Cod.seq ?_
  refine Cod.region ?_
  refine Ops.val (opV_lss rfl rfl (by first | exact decide_eq_true (by omega) | exact decide_eq_false (by omega) | rfl)) rfl ?_
  refine Ops.nil ?_
  refine Ex.next ?_
  refine Cod.seq ?_
  refine Cod.cond rfl (fun hc => ?_) (fun hc => ?_)
  · try simp at hc
    obtain ⟨⟨dv, nm', at_, dd⟩, hx⟩ : ∃ x, qs[i]? = some x := ⟨_, List.getElem?_eq_getElem (by omega)⟩
    have hxe : ((flat qs).drop (i * 3)).take 3 = [S nm', .int .i64 (at_ : Int), dv] := by
        rw [flat_drop, List.drop_eq_getElem_cons (show i < qs.length by omega), (List.getElem?_eq_some_iff.1 hx).2]; rfl
    refine Cod.skip ?_
    refine Ex.next ?_
    refine Cod.seq ?_
    refine Cod.block ?_
    refine Cod.seq ?_
    refine Cod.region ?_
    refine Ops.val (opV_move rfl) rfl ?_
    refine Ops.val (opV_assign rfl) rfl ?_
    refine Ops.nil ?_
    refine Ex.next ?_
    refine Cod.seq ?_
    refine Cod.region ?_
    refine Ops.val (opV_move rfl) rfl ?_
    refine Ops.val (opV_move rfl) rfl ?_
    refine Ops.val (opV_move rfl) rfl ?_
    refine Ops.val (opV_indexAddr Fx.sl_142 rfl hv (k := i) rfl (by omega)) rfl ?_
    refine Ops.val (opV_loadEA Fx.agg_166 rfl hv hA hxe rfl (by decide)) rfl ?_
    refine Ops.call rfl (opC_callv rfl Fx.cal_258 rfl (fun w hw => tellsName (h1 _ (List.mem_of_getElem? hx)) hw hC)) rfl ?_
    rintro v16 _ ⟨rfl, hBs⟩
    subst hBs
    refine Ops.nil ?_
    refine Ex.next ?_
    refine Cod.cond rfl (fun hp => ?_) (fun hp => ?_)
    · try simp at hp
      refine Cod.seq ?_
      refine Cod.region ?_
      refine Ops.val (opV_move rfl) rfl ?_
      refine Ops.val (opV_assign rfl) rfl ?_
      refine Ops.nil ?_
      refine Ex.next ?_
      refine Cod.ret ?_
      refine Ex.blockRet ?_
      refine Ex.thenRet ?_
      refine Ex.thenRet ?_
      refine Ex.blockRet ?_
      refine Ex.thenRet ?_
      exact Ex.ret1 rfl rfl (fun _ h => h.subs (by first | ((repeat (first | exact Sub.refl | exact Sub.nil | apply Sub.emp | (apply Sub.cons; focus ((repeat (first | exact Pick.hd | apply Pick.tl)); done)) | (apply Sub.con; focus ((repeat (first | exact Pick.hd | apply Pick.tl)); done)) | (apply Sub.app; focus ((repeat (first | exact Pick.hd | apply Pick.tl)); done)) | apply Sub.drop)); done) | ((repeat (first | rw [List.append_assoc] | rw [List.cons_append] | rw [List.nil_append] | rw [List.append_nil])); (repeat (first | exact Sub.refl | exact Sub.nil | apply Sub.emp | (apply Sub.cons; focus ((repeat (first | exact Pick.hd | apply Pick.tl)); done)) | (apply Sub.con; focus ((repeat (first | exact Pick.hd | apply Pick.tl)); done)) | (apply Sub.app; focus ((repeat (first | exact Pick.hd | apply Pick.tl)); done)) | apply Sub.drop)); done))) ⟨i, rfl, .inr ⟨i, rfl, by omega, ⟨_, hx, by simpa using hp⟩, ht⟩, rfl⟩
    · try simp at hp
      refine Cod.skip ?_
      refine Ex.blockNormal ?_
      refine Ex.next ?_
      refine Cod.region ?_
      refine Ops.val (opV_add64 rfl rfl (by omega)) rfl ?_
      refine Ops.val (opV_move rfl) rfl ?_
      refine Ops.nil ?_
      refine Ex.toN (fun _ _ hs => ⟨i + 1, ⟨by omega, by rw [List.take_add_one, hx]; intro y hy; rcases List.mem_append.1 hy with hy | hy; exact ht y hy; simp at hy; subst hy; simpa using hp⟩, (by first | omega | (dsimp only; omega) | (simp; omega) | (simp; done)), hs⟩) (by repeat (first | exact trivial | refine ⟨rfl, ?_⟩)) (fun _ h => h.subs (by first | ((repeat (first | exact Sub.refl | exact Sub.nil | apply Sub.emp | (apply Sub.cons; focus ((repeat (first | exact Pick.hd | apply Pick.tl)); done)) | (apply Sub.con; focus ((repeat (first | exact Pick.hd | apply Pick.tl)); done)) | (apply Sub.app; focus ((repeat (first | exact Pick.hd | apply Pick.tl)); done)) | apply Sub.drop)); done) | ((repeat (first | rw [List.append_assoc] | rw [List.cons_append] | rw [List.nil_append] | rw [List.append_nil])); (repeat (first | exact Sub.refl | exact Sub.nil | apply Sub.emp | (apply Sub.cons; focus ((repeat (first | exact Pick.hd | apply Pick.tl)); done)) | (apply Sub.con; focus ((repeat (first | exact Pick.hd | apply Pick.tl)); done)) | (apply Sub.app; focus ((repeat (first | exact Pick.hd | apply Pick.tl)); done)) | apply Sub.drop)); done)))
  · try simp at hc
    obtain rfl : i = qs.length := by omega
    refine Cod.exit ?_
    refine Ex.thenExit ?_
    refine Ex.thenExit ?_
    refine Ex.blockHit ?_
    refine Ex.next ?_
    refine Cod.seq ?_
    refine Cod.region ?_
    refine Ops.val (opV_assign rfl) rfl ?_
    refine Ops.nil ?_
    refine Ex.next ?_
    refine Cod.ret ?_
    exact Ex.ret1 rfl rfl (fun _ h => h.subs (by first | ((repeat (first | exact Sub.refl | exact Sub.nil | apply Sub.emp | (apply Sub.cons; focus ((repeat (first | exact Pick.hd | apply Pick.tl)); done)) | (apply Sub.con; focus ((repeat (first | exact Pick.hd | apply Pick.tl)); done)) | (apply Sub.app; focus ((repeat (first | exact Pick.hd | apply Pick.tl)); done)) | apply Sub.drop)); done) | ((repeat (first | rw [List.append_assoc] | rw [List.cons_append] | rw [List.nil_append] | rw [List.append_nil])); (repeat (first | exact Sub.refl | exact Sub.nil | apply Sub.emp | (apply Sub.cons; focus ((repeat (first | exact Pick.hd | apply Pick.tl)); done)) | (apply Sub.con; focus ((repeat (first | exact Pick.hd | apply Pick.tl)); done)) | (apply Sub.app; focus ((repeat (first | exact Pick.hd | apply Pick.tl)); done)) | apply Sub.drop)); done))) ⟨-1, rfl, .inl ⟨rfl, by simpa using ht⟩, rfl⟩
theorem keep_all {l : List Qw} (h : ∀ x ∈ l, x.2.1 ≠ nm) : l.filter (fun x => !decide (x.2.1 = nm)) = l := List.filter_eq_self.2 (fun x hx => by simp [h x hx])
theorem deleteName (hw : Owns e w As) (hp : Pick As A F) (hC : Has e F (nameB q nm)) {m : Nat} (hm : m = qs.length) (hl : qs.length ≤ 1000000000) (h1 : ∀ x ∈ qs, x.1.oneCell' = true) (hv : Row 166 3 v m (flat qs) A) :
    Calls Tryz.prog 257 #[v, nclo q] w (Ret e fun u Bs => ∃ A', Row 166 3 u (qs.filter fun x => !decide (x.2.1 = nm)).length (flat (qs.filter fun x => !decide (x.2.1 = nm))) A' ∧ Bs = A' :: F) := by
  subst hm
  refine enter Tryz.func257 rfl Tryz.ntmps257 (hw.pick hp) rfl ?_
  refine Cod.seq ?_
  refine Cod.region ?_
  refine Ops.val (opV_assign rfl) rfl ?_
  refine Ops.nil ?_
  refine Ex.next ?_
  refine Cod.seq ?_
  refine Cod.region ?_
  refine Ops.val (opV_move rfl) rfl ?_
  refine Ops.val (opV_move rfl) rfl ?_
  refine Ops.call rfl (opC_call Fx.cal_312 rfl (fun w hw => indexName hw hC.up rfl hl h1 (.mem (List.Mem.head _)) hv.sl)) rfl ?_
  rintro v10 _ ⟨r, rfl, hr, rfl⟩
  rcases hr with ⟨rfl, hall⟩ | ⟨k, rfl, hk, ⟨xk, hxk, hpk⟩, hpre⟩
  · skip
    refine Ops.val (opV_assign rfl) rfl ?_
    refine Ops.nil ?_
    refine Ex.next ?_
    refine Cod.seq ?_
    refine Cod.seq ?_
    refine Cod.region ?_
    refine Ops.val (opV_move rfl) rfl ?_
    refine Ops.val (opV_eql rfl rfl (by first | exact decide_eq_true (by omega) | exact decide_eq_false (by omega) | rfl)) rfl ?_
    refine Ops.nil ?_
    refine Ex.next ?_
    refine Cod.condT rfl ?_
    refine Cod.seq ?_
    refine Cod.region ?_
    refine Ops.val (opV_move rfl) rfl ?_
    refine Ops.val (opV_assign rfl) rfl ?_
    refine Ops.nil ?_
    refine Ex.next ?_
    refine Cod.ret ?_
    refine Ex.thenRet ?_
    exact Ex.ret1 rfl rfl (fun _ h => h.subs (by first | ((repeat (first | exact Sub.refl | exact Sub.nil | apply Sub.emp | (apply Sub.cons; focus ((repeat (first | exact Pick.hd | apply Pick.tl)); done)) | (apply Sub.con; focus ((repeat (first | exact Pick.hd | apply Pick.tl)); done)) | (apply Sub.app; focus ((repeat (first | exact Pick.hd | apply Pick.tl)); done)) | apply Sub.drop)); done) | ((repeat (first | rw [List.append_assoc] | rw [List.cons_append] | rw [List.nil_append] | rw [List.append_nil])); (repeat (first | exact Sub.refl | exact Sub.nil | apply Sub.emp | (apply Sub.cons; focus ((repeat (first | exact Pick.hd | apply Pick.tl)); done)) | (apply Sub.con; focus ((repeat (first | exact Pick.hd | apply Pick.tl)); done)) | (apply Sub.app; focus ((repeat (first | exact Pick.hd | apply Pick.tl)); done)) | apply Sub.drop)); done))) ⟨A, by rw [keep_all hall]; exact hv, rfl⟩
  · skip
    refine Ops.val (opV_assign rfl) rfl ?_
    refine Ops.nil ?_
    refine Ex.next ?_
    refine Cod.seq ?_
    refine Cod.seq ?_
    refine Cod.region ?_
    refine Ops.val (opV_move rfl) rfl ?_
    refine Ops.val (opV_eql rfl rfl (by first | exact decide_eq_true (by omega) | exact decide_eq_false (by omega) | rfl)) rfl ?_
    refine Ops.nil ?_
    refine Ex.next ?_
    refine Cod.condF rfl ?_
    refine Cod.skip ?_
    refine Ex.next ?_
    refine Cod.seq ?_
    refine Cod.seq ?_
    refine Cod.region ?_
    refine Ops.val (opV_move rfl) rfl ?_
    refine Ops.val (opV_add64 rfl rfl (by omega)) rfl ?_
    have hkk : ((k : Int) + 1) = ((k + 1 : Nat) : Int) := by omega
    rw [hkk]
    have hsplit : qs = qs.take k ++ xk :: qs.drop (k + 1) := by
        conv => lhs; rw [← List.take_append_drop k qs, List.drop_eq_getElem_cons hk, (List.getElem?_eq_some_iff.1 hxk).2]
    have hinit : ∃ t : List Qw, (flat qs).take (k * 3) = flat t ∧ t.length = k ∧ t ++ ((qs.drop (k + 1)).filter fun x => !decide (x.2.1 = nm)) = qs.filter fun x => !decide (x.2.1 = nm) := by
        refine ⟨qs.take k, flat_take _ _, by simp; omega, ?_⟩
        conv => rhs; rw [hsplit, List.filter_append, keep_all hpre]
        simp [hpk]
    refine Ops.val (opV_assign rfl) rfl ?_
    refine Ops.nil ?_
    refine Ex.next ?_
    refine Cod.block ?_
    refine Cod.loop (X := Nat × Nat × List Value × Hp) (fun (i, j, ys, A) => [(0, v), (1, nclo q), (5, .int .i64 (i : Int)), (6, .int .i64 (j : Int))]) (fun (i, j, ys, A) => A :: F) (fun (i, j, ys, A) => i < j ∧ j ≤ qs.length ∧ Row 166 3 v qs.length ys A ∧ ys.length = qs.length * 3 ∧ (∃ t, ys.take (i * 3) = flat t ∧ t.length = i ∧ t ++ ((qs.drop j).filter fun x => !decide (x.2.1 = nm)) = qs.filter fun x => !decide (x.2.1 = nm)) ∧ ys.drop (j * 3) = flat (qs.drop j)) (fun (i, j, ys, A) => qs.length - j) ((k, k + 1, flat qs, A)) (⟨by omega, by omega, hv, flat_len _, hinit, flat_drop _ _⟩) (by repeat (first | exact trivial | refine ⟨rfl, ?_⟩)) (fun _ h => h.subs (by first | ((repeat (first | exact Sub.refl | exact Sub.nil | apply Sub.emp | (apply Sub.cons; focus ((repeat (first | exact Pick.hd | apply Pick.tl)); done)) | (apply Sub.con; focus ((repeat (first | exact Pick.hd | apply Pick.tl)); done)) | (apply Sub.app; focus ((repeat (first | exact Pick.hd | apply Pick.tl)); done)) | apply Sub.drop)); done) | ((repeat (first | rw [List.append_assoc] | rw [List.cons_append] | rw [List.nil_append] | rw [List.append_nil])); (repeat (first | exact Sub.refl | exact Sub.nil | apply Sub.emp | (apply Sub.cons; focus ((repeat (first | exact Pick.hd | apply Pick.tl)); done)) | (apply Sub.con; focus ((repeat (first | exact Pick.hd | apply Pick.tl)); done)) | (apply Sub.app; focus ((repeat (first | exact Pick.hd | apply Pick.tl)); done)) | apply Sub.drop)); done))) ?_
    rintro ⟨i, j, ys, A1⟩ ⟨hij, hj, hrow, hyl, ⟨t, ht1, ht2, ht3⟩, hd⟩
    try dsimp only
    refine Cod.seq ?_
    refine Cod.seq ?_
    refine Cod.region ?_
    refine Ops.val (opV_move rfl) rfl ?_
    refine Ops.val (opV_move rfl) rfl ?_
    refine Ops.val (opV_len Fx.sl_142 rfl hrow.isSlice) rfl ?_
    refine Ops.val (opV_lss rfl rfl (by first | exact decide_eq_true (by omega) | exact decide_eq_false (by omega) | rfl)) rfl ?_
    refine Ops.nil ?_
    refine Ex.next ?_
    refine Cod.cond rfl (fun hc => ?_) (fun hc => ?_)
    · try simp at hc
      obtain ⟨⟨dv, nm', at_, dd⟩, hx⟩ : ∃ x, qs[j]? = some x := ⟨_, List.getElem?_eq_getElem (by omega)⟩
      have hdx : qs.drop j = (dv, nm', at_, dd) :: qs.drop (j + 1) := by
          rw [List.drop_eq_getElem_cons (show j < qs.length by omega), (List.getElem?_eq_some_iff.1 hx).2]
      have hyx : (ys.drop (j * 3)).take 3 = [S nm', .int .i64 (at_ : Int), dv] := by rw [hd, hdx]; rfl
      have hdj : ys.drop ((j + 1) * 3) = flat (qs.drop (j + 1)) := by
          have := congrArg (List.drop 3) hd
          rw [List.drop_drop, hdx] at this
          rw [show (j + 1) * 3 = j * 3 + 3 by omega, this]; rfl
      have hone := h1 _ (List.mem_of_getElem? hx)
      dsimp only at hone
      refine Cod.skip ?_
      refine Ex.next ?_
      refine Cod.seq ?_
      refine Cod.block ?_
      refine Cod.seq ?_
      refine Cod.region ?_
      refine Ops.val (opV_move rfl) rfl ?_
      refine Ops.val (opV_move rfl) rfl ?_
      refine Ops.val (opV_indexAddr Fx.sl_142 rfl hrow.sl (k := j) rfl (by omega)) rfl ?_
      refine Ops.val (opV_loadEA Fx.agg_166 rfl hrow.sl (.mem (by repeat (first | exact List.Mem.head _ | apply List.Mem.tail))) hyx rfl (by decide)) rfl ?_
      refine Ops.eff rfl (opE_alloc Fx.zero_166) rfl ?_
      rintro _ _ ⟨b7, rfl, rfl⟩
      refine Ops.st rfl (opS_storeA Fx.agg_166 rfl rfl rfl (by (try simp only [putAt]); simp only [List.mem_cons, List.not_mem_nil, or_false, forall_eq_or_imp, forall_eq]; (repeat' apply And.intro) <;> first | rfl | assumption | exact Row.one (by assumption) | exact Sl.one (by assumption)) rfl (by repeat (first | exact Upd.hd | apply Upd.tl)) rfl) ?_
      refine Ops.nil ?_
      refine Ex.next ?_
      refine Cod.seq ?_
      refine Cod.region ?_
      refine Ops.val (opV_move rfl) rfl ?_
      refine Ops.val (opV_loadW Fx.agg_166 rfl (.mem (by repeat (first | exact List.Mem.head _ | apply List.Mem.tail))) (List.Mem.head _) rfl) rfl ?_
      refine Ops.call rfl (opC_callv rfl Fx.cal_258 rfl (fun w hw => tellsName hone hw hC.up.up)) rfl ?_
      rintro v28 _ ⟨rfl, rfl⟩
      refine Ops.val (opV_not rfl) rfl ?_
      refine Ops.nil ?_
      refine Ex.next ?_
      refine Cod.cond rfl (fun hpx => ?_) (fun hpx => ?_)
      · try simp at hpx
        have hpx' : nm' ≠ nm := by simpa using hpx
        refine Cod.seq ?_
        refine Cod.region ?_
        refine Ops.val (opV_move rfl) rfl ?_
        refine Ops.val (opV_move rfl) rfl ?_
        refine Ops.val (opV_loadW Fx.agg_166 rfl (.mem (by repeat (first | exact List.Mem.head _ | apply List.Mem.tail))) (List.Mem.head _) rfl) rfl ?_
        refine Ops.val (opV_indexAddr Fx.sl_142 rfl hrow.sl (k := i) rfl (by omega)) rfl ?_
        refine Ops.stE rfl (opS_storeEA Fx.agg_166 rfl rfl rfl (by decide) (by (try simp only [putAt]); simp only [List.mem_cons, List.not_mem_nil, or_false, forall_eq_or_imp, forall_eq]; (repeat' apply And.intro) <;> first | rfl | assumption | exact Row.one (by assumption) | exact Sl.one (by assumption)) (by repeat (first | exact Pick.hd | apply Pick.tl)) hrow (by omega) ) ?_
        rintro _ ⟨A2, hA2, rfl⟩
        refine Ops.nil ?_
        refine Ex.next ?_
        refine Cod.region ?_
        refine Ops.val (opV_move rfl) rfl ?_
        refine Ops.val (opV_add64 rfl rfl (by omega)) rfl ?_
        rw [show ((i : Int) + 1) = ((i + 1 : Nat) : Int) by omega]
        have hput := putAt_set [S nm', .int .i64 (at_ : Int), dv] ys (i * 3) (by simp; omega)
        have hput1 : (putAt ys (i * 3) [S nm', .int .i64 (at_ : Int), dv]).take ((i + 1) * 3) = flat (t ++ [(dv, nm', at_, dd)]) := by
            rw [hput, flat_append, ← ht1, List.take_left' (by simp; omega)]; rfl
        have hput2 : (putAt ys (i * 3) [S nm', .int .i64 (at_ : Int), dv]).drop ((j + 1) * 3) = flat (qs.drop (j + 1)) := by
            rw [← hdj, hput]
            apply List.ext_getElem?
            intro y
            simp only [List.getElem?_drop, List.getElem?_append, List.length_append, List.length_take, List.length_cons, List.length_nil]
            rw [if_neg (by omega)]
            congr 1; omega
        have hput3 : (putAt ys (i * 3) [S nm', .int .i64 (at_ : Int), dv]).length = qs.length * 3 := by rw [hput]; simp; omega
        refine Ops.val (opV_assign rfl) rfl ?_
        refine Ops.nil ?_
        refine Ex.blockNormal ?_
        refine Ex.next ?_
        refine Cod.region ?_
        refine Ops.val (opV_move rfl) rfl ?_
        refine Ops.val (opV_add64 rfl rfl (by omega)) rfl ?_
        refine Ops.val (opV_assign rfl) rfl ?_
        refine Ops.nil ?_
        refine Ex.toN (fun _ _ hs => ⟨(i + 1, j + 1, putAt ys (i * 3) [S nm', .int .i64 (at_ : Int), dv], A2), ⟨by dsimp only; omega, by dsimp only; omega, hA2, hput3, ⟨t ++ [(dv, nm', at_, dd)], hput1, by simp [ht2], by rw [← ht3, hdx]; simp [hpx']⟩, hput2⟩, (by first | omega | (dsimp only; omega) | (simp; omega) | (simp; done)), hs⟩) (by repeat (first | exact trivial | refine ⟨rfl, ?_⟩)) (fun _ h => h.subs (by first | ((repeat (first | exact Sub.refl | exact Sub.nil | apply Sub.emp | (apply Sub.cons; focus ((repeat (first | exact Pick.hd | apply Pick.tl)); done)) | (apply Sub.con; focus ((repeat (first | exact Pick.hd | apply Pick.tl)); done)) | (apply Sub.app; focus ((repeat (first | exact Pick.hd | apply Pick.tl)); done)) | apply Sub.drop)); done) | ((repeat (first | rw [List.append_assoc] | rw [List.cons_append] | rw [List.nil_append] | rw [List.append_nil])); (repeat (first | exact Sub.refl | exact Sub.nil | apply Sub.emp | (apply Sub.cons; focus ((repeat (first | exact Pick.hd | apply Pick.tl)); done)) | (apply Sub.con; focus ((repeat (first | exact Pick.hd | apply Pick.tl)); done)) | (apply Sub.app; focus ((repeat (first | exact Pick.hd | apply Pick.tl)); done)) | apply Sub.drop)); done)))
      · try simp at hpx
        have hpx' : nm' = nm := by simpa using hpx
        refine Cod.skip ?_
        refine Ex.blockNormal ?_
        refine Ex.next ?_
        refine Cod.region ?_
        refine Ops.val (opV_move rfl) rfl ?_
        refine Ops.val (opV_add64 rfl rfl (by omega)) rfl ?_
        refine Ops.val (opV_assign rfl) rfl ?_
        refine Ops.nil ?_
        refine Ex.toN (fun _ _ hs => ⟨(i, j + 1, ys, A1), ⟨by dsimp only; omega, by dsimp only; omega, hrow, hyl, ⟨t, ht1, ht2, by rw [← ht3, hdx]; simp [hpx']⟩, hdj⟩, (by first | omega | (dsimp only; omega) | (simp; omega) | (simp; done)), hs⟩) (by repeat (first | exact trivial | refine ⟨rfl, ?_⟩)) (fun _ h => h.subs (by first | ((repeat (first | exact Sub.refl | exact Sub.nil | apply Sub.emp | (apply Sub.cons; focus ((repeat (first | exact Pick.hd | apply Pick.tl)); done)) | (apply Sub.con; focus ((repeat (first | exact Pick.hd | apply Pick.tl)); done)) | (apply Sub.app; focus ((repeat (first | exact Pick.hd | apply Pick.tl)); done)) | apply Sub.drop)); done) | ((repeat (first | rw [List.append_assoc] | rw [List.cons_append] | rw [List.nil_append] | rw [List.append_nil])); (repeat (first | exact Sub.refl | exact Sub.nil | apply Sub.emp | (apply Sub.cons; focus ((repeat (first | exact Pick.hd | apply Pick.tl)); done)) | (apply Sub.con; focus ((repeat (first | exact Pick.hd | apply Pick.tl)); done)) | (apply Sub.app; focus ((repeat (first | exact Pick.hd | apply Pick.tl)); done)) | apply Sub.drop)); done)))
    · try simp at hc
      obtain rfl : j = qs.length := by omega
      simp only [List.drop_length, List.filter_nil, List.append_nil] at ht3
      refine Cod.exit ?_
      refine Ex.thenExit ?_
      refine Ex.thenExit ?_
      refine Ex.blockHit ?_
      refine Ex.next ?_
      refine Cod.seq ?_
      refine Cod.region ?_
      refine Ops.val (opV_move rfl) rfl ?_
      refine Ops.val (opV_move rfl) rfl ?_
      refine Ops.val (opV_slice Fx.sl_142 rfl hrow.sl (lo' := i) (hi' := qs.length) ⟨_, rfl⟩ rfl (by omega) (Nat.le_refl _)) rfl ?_
      refine Ops.effN rfl (opE_clear Fx.sl_142 rfl (by decide) (by simp [Value.oneCell', Value.cells]) rfl (by repeat (first | exact Pick.hd | apply Pick.tl)) hrow (by omega)) ?_
      rintro v _ ⟨A3, zs, hA3, hzs, rfl⟩
      refine Ops.nil ?_
      refine Ex.next ?_
      refine Cod.seq ?_
      refine Cod.region ?_
      refine Ops.val (opV_move rfl) rfl ?_
      refine Ops.val (opV_move rfl) rfl ?_
      refine Ops.val (opV_slice Fx.sl_142 rfl hA3.sl (lo' := 0) (hi' := i) rfl ⟨_, rfl⟩ (by omega) (by omega)) rfl ?_
      have hfin := hA3.rsl (lo := 0) (hi := i) (by omega) (by omega)
      refine Ops.val (opV_assign rfl) rfl ?_
      refine Ops.nil ?_
      refine Ex.next ?_
      refine Cod.ret ?_
      exact Ex.ret1 rfl rfl (fun _ h => h.subs (by first | ((repeat (first | exact Sub.refl | exact Sub.nil | apply Sub.emp | (apply Sub.cons; focus ((repeat (first | exact Pick.hd | apply Pick.tl)); done)) | (apply Sub.con; focus ((repeat (first | exact Pick.hd | apply Pick.tl)); done)) | (apply Sub.app; focus ((repeat (first | exact Pick.hd | apply Pick.tl)); done)) | apply Sub.drop)); done) | ((repeat (first | rw [List.append_assoc] | rw [List.cons_append] | rw [List.nil_append] | rw [List.append_nil])); (repeat (first | exact Sub.refl | exact Sub.nil | apply Sub.emp | (apply Sub.cons; focus ((repeat (first | exact Pick.hd | apply Pick.tl)); done)) | (apply Sub.con; focus ((repeat (first | exact Pick.hd | apply Pick.tl)); done)) | (apply Sub.app; focus ((repeat (first | exact Pick.hd | apply Pick.tl)); done)) | apply Sub.drop)); done))) ⟨A3, by rw [← ht3, ht2]; simpa [hzs, ht1] using hfin, rfl⟩
theorem forget_any {y0 y2 y3 pv : Value} {PR : Hp} (hw : Owns e w As) (hp : Pick As [(p, .cells #[y0, pv, y2, y3] 144)] F) (hq : Pick F PR G) (hl : qs.length ≤ 100000000) (h1 : ∀ x ∈ qs, x.1.oneCell' = true) {m : Nat} (hm : m = qs.length) (hR : Row 166 3 pv m (flat qs) PR) :
    Calls Tryz.prog 212 #[.pointer (some ⟨p, 0, none⟩), S nm] w (Ret e fun u Bs => u = .tuple #[] ∧ ∃ pv' PR', Row 166 3 pv' (qs.filter fun x => !decide (x.2.1 = nm)).length (flat (qs.filter fun x => !decide (x.2.1 = nm))) PR' ∧ Bs = [(p, .cells #[y0, pv', y2, y3] 144)] :: PR' :: G) := by
  refine enter Tryz.func212 rfl Tryz.ntmps212 (hw.pick2 hp hq) rfl ?_
  refine Cod.seq ?_
  refine Cod.region ?_
  refine Ops.eff rfl (opE_box rfl) rfl ?_
  rintro _ _ ⟨b3, rfl, rfl⟩
  refine Ops.nil ?_
  refine Ex.next ?_
  refine Cod.region ?_
  refine Ops.val (opV_move rfl) rfl ?_
  refine Ops.val (opV_move rfl) rfl ?_
  refine Ops.val (opV_nil rfl) rfl ?_
  refine Ops.val (opV_field Fx.fld_144_1 rfl) rfl ?_
  refine Ops.val (opV_load Fx.scal_142 rfl (by repeat (first | exact Cell.one rfl | assumption | apply Cell.tl))) rfl ?_
  refine Ops.val (opV_makeFunc rfl rfl) rfl ?_
  refine Ops.call rfl (opC_call Fx.cal_257 rfl (fun w hw => deleteName hw (A := PR) (by repeat (first | exact Pick.hd | apply Pick.tl)) (.mem (by repeat (first | exact List.Mem.head _ | apply List.Mem.tail))) hm (by omega) h1 hR)) rfl ?_
  rintro v10 _ ⟨PR', hPR', rfl⟩
  refine Ops.val (opV_nil rfl) rfl ?_
  refine Ops.val (opV_field Fx.fld_144_1 rfl) rfl ?_
  refine Ops.st rfl (opS_store Fx.scal_142 Fx.sz1_142 rfl rfl (by first | rfl | assumption | exact Row.one (by assumption) | exact Sl.one (by assumption)) rfl (by repeat (first | exact Upd.hd | apply Upd.tl)) (by repeat (first | exact LSet.hd | apply LSet.tl))) ?_
  refine Ops.nil ?_
  exact Ex.end0 rfl (fun _ h => h.subs (by first | ((repeat (first | exact Sub.refl | exact Sub.nil | apply Sub.emp | (apply Sub.cons; focus ((repeat (first | exact Pick.hd | apply Pick.tl)); done)) | (apply Sub.con; focus ((repeat (first | exact Pick.hd | apply Pick.tl)); done)) | (apply Sub.app; focus ((repeat (first | exact Pick.hd | apply Pick.tl)); done)) | apply Sub.drop)); done) | ((repeat (first | rw [List.append_assoc] | rw [List.cons_append] | rw [List.nil_append] | rw [List.append_nil])); (repeat (first | exact Sub.refl | exact Sub.nil | apply Sub.emp | (apply Sub.cons; focus ((repeat (first | exact Pick.hd | apply Pick.tl)); done)) | (apply Sub.con; focus ((repeat (first | exact Pick.hd | apply Pick.tl)); done)) | (apply Sub.app; focus ((repeat (first | exact Pick.hd | apply Pick.tl)); done)) | apply Sub.drop)); done))) ⟨rfl, v10, PR', hPR', rfl⟩
def _root_.Go.Proofs.YteejmoldhbfdnaaGreatDoor.Disk.DK.drop (D : DK) (nm : Str) : DK := { D with files := del nm D.files, pend := D.pend.filter fun x => !decide (x.1 = nm) }
theorem remove_any {d s : Str} (hk : lkp nm D.files = some (d, s)) (hn : D.pend.length ≤ 100000000) (hu : D.used ≤ 1000000000) (hw : Owns e w As) (hp : Pick As A F) (hD : DiskA p D A) :
    Calls Tryz.prog 147 #[.pointer (some ⟨p, 0, none⟩), S nm] w (Ret e fun u Bs => u = .int .i64 0 ∧ ∃ A', DiskA p (D.drop nm) A' ∧ Bs = A' :: F) := by
  obtain ⟨mb, ob, pv, ps, FA, PR, PA, kvs, hM, hF, hR, hP, rfl⟩ := hD
  obtain ⟨fv, hkv⟩ := hF.kv hk
  obtain ⟨fb, dv, sv, data, safe, R1, R2, FA', rfl, hk', hd, hs, hown, _, hdel⟩ := hF.get hkv
  rw [hk'] at hk
  cases hk
  have hdu := usedF_le hk'
  have hdu' : d.length ≤ D.used := hdu
  have hdd := usedF_del hk'
  obtain ⟨qs, hq1, hq2, hq3⟩ := PLqs hP
  subst hq2
  have hql : D.pend.length = qs.length := by rw [← hq1]; simp
  have hus : ((usedF (del nm D.files) : Nat) : Int) = (D.used : Int) - (d.length : Int) := by
    unfold DK.used; omega
  have hpe : (D.drop nm).pend = (qs.filter fun x => !decide (x.2.1 = nm)).map Prod.snd := by
    simp only [DK.drop, ← hq1, List.filter_map]; rfl
  have hone : ∀ x ∈ qs, x.1.oneCell' = true := fun x hx => (hq3 x hx).one
  have hPL : PL PA (flat (qs.filter fun x => !decide (x.2.1 = nm))) (D.drop nm).pend := by
    rw [hpe]; exact PLof fun x hx => hq3 x (List.mem_filter.1 hx).1
  refine enter Tryz.func147 rfl Tryz.ntmps147 (hown _ _ ((Owns.disk (hw.pick hp)).pick (.tl (.tl (.tl (.tl .hd)))))) rfl ?_
  refine Cod.seq ?_
  refine Cod.region ?_
  refine Ops.val (opV_assign rfl) rfl ?_
  refine Ops.nil ?_
  refine Ex.next ?_
  refine Cod.seq ?_
  refine Cod.region ?_
  refine Ops.val (opV_move rfl) rfl ?_
  refine Ops.val (opV_nil rfl) rfl ?_
  refine Ops.val (opV_field Fx.fld_144_0 rfl) rfl ?_
  refine Ops.val (opV_load Fx.scal_141 rfl (by repeat (first | exact Cell.one rfl | assumption | apply Cell.tl))) rfl ?_
  refine Ops.val (opV_move rfl) rfl ?_
  refine Ops.val (opV_lookup (κ := Str) Fx.map_141 rfl rfl (.mem (by repeat (first | exact List.Mem.head _ | apply List.Mem.tail))) (List.Mem.head _) hM) rfl ?_
  rw [hkv]
  refine Ops.val (opV_assign rfl) rfl ?_
  refine Ops.nil ?_
  refine Ex.next ?_
  refine Cod.seq ?_
  refine Cod.seq ?_
  refine Cod.region ?_
  refine Ops.val (opV_move rfl) rfl ?_
  refine Ops.val (opV_ptrnil Fx.ptr_161 rfl rfl rfl) rfl ?_
  refine Ops.nil ?_
  refine Ex.next ?_
  refine Cod.condF rfl ?_
  refine Cod.skip ?_
  refine Ex.next ?_
  refine Cod.seq ?_
  refine Cod.draw [3, 7] [0, 1, 2, 4, 5, 6, 8, 9, 10, 11] ([(p, .cells #[.map (some mb), pv, .int .i64 D.room, .int .i64 (D.used : Int)] 144)] :: [(fb, .cells #[dv, sv] 163)] :: []) [0, 1, 2, 3, 4, 5, 6, 7, 8, 9, 10, 11, 12] M.mixed (by kernel_rfl) ?_
  refine AnyJ.valU rfl rfl rfl (opV_move rfl) rfl (fun _ _ _ h => h.2.elim) ?_
  refine AnyJ.valU rfl rfl rfl (opV_nil rfl) rfl (fun _ _ _ h => h.2.elim) ?_
  refine AnyJ.valU rfl rfl rfl (opV_field Fx.fld_144_3 rfl) rfl (fun _ _ _ h => h.2.elim) ?_
  refine AnyJ.val rfl rfl (opV_load Fx.scal_3 rfl (by repeat (first | exact Cell.one rfl | assumption | apply Cell.tl))) rfl (fun _ _ _ h => h.2.elim) (fun _ h => h.subs (by first | ((repeat (first | exact Sub.refl | exact Sub.nil | apply Sub.emp | (apply Sub.cons; focus ((repeat (first | exact Pick.hd | apply Pick.tl)); done)) | (apply Sub.con; focus ((repeat (first | exact Pick.hd | apply Pick.tl)); done)) | (apply Sub.app; focus ((repeat (first | exact Pick.hd | apply Pick.tl)); done)) | apply Sub.drop)); done) | ((repeat (first | rw [List.append_assoc] | rw [List.cons_append] | rw [List.nil_append] | rw [List.append_nil])); (repeat (first | exact Sub.refl | exact Sub.nil | apply Sub.emp | (apply Sub.cons; focus ((repeat (first | exact Pick.hd | apply Pick.tl)); done)) | (apply Sub.con; focus ((repeat (first | exact Pick.hd | apply Pick.tl)); done)) | (apply Sub.app; focus ((repeat (first | exact Pick.hd | apply Pick.tl)); done)) | apply Sub.drop)); done))) ?_
  refine AnyJ.valU rfl rfl rfl (opV_move rfl) rfl (fun _ _ _ h => h.2.elim) ?_
  refine AnyJ.valU rfl rfl rfl (opV_nil rfl) rfl (fun _ _ _ h => h.2.elim) ?_
  refine AnyJ.valU rfl rfl rfl (opV_field Fx.fld_163_0 rfl) rfl (fun _ _ _ h => h.2.elim) ?_
  refine AnyJ.val rfl rfl (opV_load Fx.scal_29 rfl (by repeat (first | exact Cell.one rfl | assumption | apply Cell.tl))) rfl (fun _ _ _ h => h.2.elim) (fun _ h => h.subs (by first | ((repeat (first | exact Sub.refl | exact Sub.nil | apply Sub.emp | (apply Sub.cons; focus ((repeat (first | exact Pick.hd | apply Pick.tl)); done)) | (apply Sub.con; focus ((repeat (first | exact Pick.hd | apply Pick.tl)); done)) | (apply Sub.app; focus ((repeat (first | exact Pick.hd | apply Pick.tl)); done)) | apply Sub.drop)); done) | ((repeat (first | rw [List.append_assoc] | rw [List.cons_append] | rw [List.nil_append] | rw [List.append_nil])); (repeat (first | exact Sub.refl | exact Sub.nil | apply Sub.emp | (apply Sub.cons; focus ((repeat (first | exact Pick.hd | apply Pick.tl)); done)) | (apply Sub.con; focus ((repeat (first | exact Pick.hd | apply Pick.tl)); done)) | (apply Sub.app; focus ((repeat (first | exact Pick.hd | apply Pick.tl)); done)) | apply Sub.drop)); done))) ?_
  refine AnyJ.valU rfl rfl rfl (opV_len Fx.sl_29 rfl (by first | exact ⟨_, _, rfl⟩ | exact Sl.isSlice (by assumption) | exact (Row.sl (by assumption)).isSlice)) rfl (fun _ _ _ h => h.2.elim) ?_
  refine AnyJ.valU rfl rfl rfl (opV_sub64 rfl rfl (by omega)) rfl (fun _ _ _ h => h.2.elim) ?_
  refine AnyJ.valU rfl rfl rfl (opV_nil rfl) rfl (fun _ _ _ h => h.2.elim) ?_
  refine AnyJ.valU rfl rfl rfl (opV_field Fx.fld_144_3 rfl) rfl (fun _ _ _ h => h.2.elim) ?_
  refine AnyJ.st rfl rfl (opS_store Fx.scal_3 Fx.sz1_3 rfl rfl (by first | rfl | assumption | exact Row.one (by assumption) | exact Sl.one (by assumption)) rfl (by repeat (first | exact Upd.hd | apply Upd.tl)) (by repeat (first | exact LSet.hd | apply LSet.tl))) (by first | (intro _ _ h; refine h.subs ?_; (repeat (first | exact Sub.refl | exact Sub.nil | apply Sub.emp | (apply Sub.cons; focus ((repeat (first | exact Pick.hd | apply Pick.tl)); done)) | (apply Sub.con; focus ((repeat (first | exact Pick.hd | apply Pick.tl)); done)) | (apply Sub.app; focus ((repeat (first | exact Pick.hd | apply Pick.tl)); done)) | apply Sub.drop)); done) | exact lead_no (by kernel_rfl)) ?_
  refine AnyJ.nil ?_
  refine Ex.next ?_
  refine Cod.seq ?_
  refine Cod.region ?_
  refine Ops.val (opV_move rfl) rfl ?_
  refine Ops.val (opV_nil rfl) rfl ?_
  refine Ops.val (opV_field Fx.fld_144_0 rfl) rfl ?_
  refine Ops.val (opV_load Fx.scal_141 rfl (by repeat (first | exact Cell.one rfl | assumption | apply Cell.tl))) rfl ?_
  refine Ops.val (opV_move rfl) rfl ?_
  refine Ops.effN rfl (opE_delete (κ := Str) Fx.map_141 rfl rfl (by repeat (first | exact Pick.hd | apply Pick.tl)) hM ) ?_
  rintro _ _ ⟨ob', hM', rfl⟩
  rw [← hus]
  refine Ops.nil ?_
  refine Ex.next ?_
  refine Cod.seq ?_
  refine Cod.region ?_
  refine Ops.val (opV_move rfl) rfl ?_
  refine Ops.val (opV_move rfl) rfl ?_
  refine Ops.call rfl (opC_call Fx.cal_212 rfl (fun w hw => forget_any (qs := qs) hw (by repeat (first | exact Pick.hd | apply Pick.tl)) (PR := PR) (by repeat (first | exact Pick.hd | apply Pick.tl)) (by omega) hone hql hR)) rfl ?_
  rintro v33 _ ⟨rfl, pv', PR', hPR', rfl⟩
  refine Ops.nil ?_
  refine Ex.next ?_
  refine Cod.seq ?_
  refine Cod.region ?_
  refine Ops.val (opV_assign rfl) rfl ?_
  refine Ops.nil ?_
  refine Ex.next ?_
  refine Cod.ret ?_
  exact Ex.ret1 rfl rfl (fun _ h => h.subs (by first | ((repeat (first | exact Sub.refl | exact Sub.nil | apply Sub.emp | (apply Sub.cons; focus ((repeat (first | exact Pick.hd | apply Pick.tl)); done)) | (apply Sub.con; focus ((repeat (first | exact Pick.hd | apply Pick.tl)); done)) | (apply Sub.app; focus ((repeat (first | exact Pick.hd | apply Pick.tl)); done)) | apply Sub.drop)); done) | ((repeat (first | rw [List.append_assoc] | rw [List.cons_append] | rw [List.nil_append] | rw [List.append_nil])); (repeat (first | exact Sub.refl | exact Sub.nil | apply Sub.emp | (apply Sub.cons; focus ((repeat (first | exact Pick.hd | apply Pick.tl)); done)) | (apply Sub.con; focus ((repeat (first | exact Pick.hd | apply Pick.tl)); done)) | (apply Sub.app; focus ((repeat (first | exact Pick.hd | apply Pick.tl)); done)) | apply Sub.drop)); done))) ⟨rfl, _, ⟨mb, ob', pv', _, FA', PR', PA, _, hM', hdel, by rw [hpe]; simpa using hPR', hPL, rfl⟩, rfl⟩
theorem drop_spec {l gen size : Nat} {base : Str} {d s : Str} (hG : Glob e) (hb : okBase base) (hg : gen ≤ 999999999) (hk : lkp (fileF base gen) D.files = some (d, s)) (hn : D.pend.length ≤ 100000000) (hu : D.used ≤ 1000000000) (hw : Owns e w As) (hp : Pick As A F) (hq : Has e F (logB l p base gen size)) (hD : DiskA p D A) :
    Calls Tryz.prog 91 #[.pointer (some ⟨l, 0, none⟩)] w (Ret e fun u Bs => u = .tuple #[] ∧ ∃ A', DiskA p (D.drop (fileF base gen)) A' ∧ Bs = A' :: F) := by
  refine enter Tryz.func91 rfl Tryz.ntmps91 (hw.pick hp) rfl ?_
  refine Cod.draw [3, 8] [0, 1, 2, 4, 5, 6, 7] (F) [0, 1, 2, 3, 4, 5, 6, 7, 8, 9, 10] M.mixed (by kernel_rfl) ?_
  refine AnyJ.valU rfl rfl rfl (opV_move rfl) rfl (fun _ _ _ h => h.2.elim) ?_
  refine AnyJ.valU rfl rfl rfl (opV_nil rfl) rfl (fun _ _ _ h => h.2.elim) ?_
  refine AnyJ.valU rfl rfl rfl (opV_field Fx.fld_228_0 rfl) rfl (fun _ _ _ h => h.2.elim) ?_
  refine AnyJ.val rfl rfl (opV_load Fx.scal_24 rfl (cellOf hq (List.Mem.head _) rfl)) rfl (fun _ _ _ h => h.2.elim) (fun _ h => h.subs (by first | ((repeat (first | exact Sub.refl | exact Sub.nil | apply Sub.emp | (apply Sub.cons; focus ((repeat (first | exact Pick.hd | apply Pick.tl)); done)) | (apply Sub.con; focus ((repeat (first | exact Pick.hd | apply Pick.tl)); done)) | (apply Sub.app; focus ((repeat (first | exact Pick.hd | apply Pick.tl)); done)) | apply Sub.drop)); done) | ((repeat (first | rw [List.append_assoc] | rw [List.cons_append] | rw [List.nil_append] | rw [List.append_nil])); (repeat (first | exact Sub.refl | exact Sub.nil | apply Sub.emp | (apply Sub.cons; focus ((repeat (first | exact Pick.hd | apply Pick.tl)); done)) | (apply Sub.con; focus ((repeat (first | exact Pick.hd | apply Pick.tl)); done)) | (apply Sub.app; focus ((repeat (first | exact Pick.hd | apply Pick.tl)); done)) | apply Sub.drop)); done))) ?_
  refine AnyJ.valU rfl rfl rfl (opV_move rfl) rfl (fun _ _ _ h => h.2.elim) ?_
  refine AnyJ.valU rfl rfl rfl (opV_move rfl) rfl (fun _ _ _ h => h.2.elim) ?_
  refine AnyJ.valU rfl rfl rfl (opV_nil rfl) rfl (fun _ _ _ h => h.2.elim) ?_
  refine AnyJ.valU rfl rfl rfl (opV_field Fx.fld_228_2 rfl) rfl (fun _ _ _ h => h.2.elim) ?_
  refine AnyJ.val rfl rfl (opV_load Fx.scal_3 rfl (cellOf hq (List.Mem.head _) rfl)) rfl (fun _ _ _ h => h.2.elim) (fun _ h => h.subs (by first | ((repeat (first | exact Sub.refl | exact Sub.nil | apply Sub.emp | (apply Sub.cons; focus ((repeat (first | exact Pick.hd | apply Pick.tl)); done)) | (apply Sub.con; focus ((repeat (first | exact Pick.hd | apply Pick.tl)); done)) | (apply Sub.app; focus ((repeat (first | exact Pick.hd | apply Pick.tl)); done)) | apply Sub.drop)); done) | ((repeat (first | rw [List.append_assoc] | rw [List.cons_append] | rw [List.nil_append] | rw [List.append_nil])); (repeat (first | exact Sub.refl | exact Sub.nil | apply Sub.emp | (apply Sub.cons; focus ((repeat (first | exact Pick.hd | apply Pick.tl)); done)) | (apply Sub.con; focus ((repeat (first | exact Pick.hd | apply Pick.tl)); done)) | (apply Sub.app; focus ((repeat (first | exact Pick.hd | apply Pick.tl)); done)) | apply Sub.drop)); done))) ?_
  refine AnyJ.call rfl rfl (opC_call Fx.cal_149 rfl (fun w hw => file_spec (base := base) (gen := gen) (size := size) (d := p) hG (by omega) (by have := (good_file (n := gen) hb hg).2.1; omega) hw hq.up)) rfl ?_
  rintro v11 _ ⟨rfl, rfl⟩
  refine ⟨(by first | (intro _ _ h; refine h.subs ?_; (repeat (first | exact Sub.refl | exact Sub.nil | apply Sub.emp | (apply Sub.cons; focus ((repeat (first | exact Pick.hd | apply Pick.tl)); done)) | (apply Sub.con; focus ((repeat (first | exact Pick.hd | apply Pick.tl)); done)) | (apply Sub.app; focus ((repeat (first | exact Pick.hd | apply Pick.tl)); done)) | apply Sub.drop)); done) | exact lead_no (by kernel_rfl)), ?_⟩
  refine AnyJ.call rfl rfl (opC_call Fx.cal_147 rfl (fun w hw => remove_any hk hn hu hw .hd hD)) rfl ?_
  rintro v12 _ ⟨rfl, A', hA', rfl⟩
  refine ⟨(by first | (intro _ _ h; refine h.subs ?_; (repeat (first | exact Sub.refl | exact Sub.nil | apply Sub.emp | (apply Sub.cons; focus ((repeat (first | exact Pick.hd | apply Pick.tl)); done)) | (apply Sub.con; focus ((repeat (first | exact Pick.hd | apply Pick.tl)); done)) | (apply Sub.app; focus ((repeat (first | exact Pick.hd | apply Pick.tl)); done)) | apply Sub.drop)); done) | exact lead_no (by kernel_rfl)), ?_⟩
  refine AnyJ.nil ?_
  exact Ex.end0 rfl (fun _ h => h.subs (by first | ((repeat (first | exact Sub.refl | exact Sub.nil | apply Sub.emp | (apply Sub.cons; focus ((repeat (first | exact Pick.hd | apply Pick.tl)); done)) | (apply Sub.con; focus ((repeat (first | exact Pick.hd | apply Pick.tl)); done)) | (apply Sub.app; focus ((repeat (first | exact Pick.hd | apply Pick.tl)); done)) | apply Sub.drop)); done) | ((repeat (first | rw [List.append_assoc] | rw [List.cons_append] | rw [List.nil_append] | rw [List.append_nil])); (repeat (first | exact Sub.refl | exact Sub.nil | apply Sub.emp | (apply Sub.cons; focus ((repeat (first | exact Pick.hd | apply Pick.tl)); done)) | (apply Sub.con; focus ((repeat (first | exact Pick.hd | apply Pick.tl)); done)) | (apply Sub.app; focus ((repeat (first | exact Pick.hd | apply Pick.tl)); done)) | apply Sub.drop)); done))) ⟨rfl, A', hA', rfl⟩
end
end Go.Proofs.YteejmoldhbfdnaaGreatDoor.Forget
