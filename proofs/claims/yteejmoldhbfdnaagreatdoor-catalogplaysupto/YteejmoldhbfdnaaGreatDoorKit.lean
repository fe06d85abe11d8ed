/- Functions of Go's library, told over owned heaps: by the kit's contracts or walked. -/
import Derived.Test.YteejmoldhbfdnaaGreatDoorShelf
import Derived.Test.YteejmoldhbfdnaaGreatDoorCore4
import Derived.Test.YteejmoldhbfdnaaGreatDoorBase
import Derived.Lib.SmallJoins
import Derived.Lib.AppendIntMem
import Derived.Lib.AtoiAll
namespace Go.Proofs.YteejmoldhbfdnaaGreatDoor.Kit
open Go.W Go.RowKit
namespace Fx
theorem cal_158 : callable Tryz.prog 158 = true := by kernel_rfl
theorem cal_248 : callable Tryz.prog 248 = true := by kernel_rfl
theorem und_9 : Tryz.prog.underlying 9 = some .string := by kernel_rfl

end Fx
section
variable {e : Ctx} {w : World} {As F : List Hp} {A : Hp} {s t : Str}
theorem below_ret {f : Nat} {args : Array Value} {Q : Value → Prop} (hw : Owns e w As) (h : Calls Tryz.prog f args w fun en w' => ∃ v, en = .returned v ∧ Q v ∧ Below w.heap.size w w') :
    Calls Tryz.prog f args w (Ret e fun u Bs => Q u ∧ Bs = As) := by
  refine Calls.mono h ?_
  rintro en w' ⟨v, rfl, hq, hb⟩
  exact ⟨As, ⟨hq, rfl⟩, hw.below hb⟩
/-- The variable of the powers of ten. -/
def HasPow (e : Ctx) : Prop := ∀ w As, Owns e w As → Lib.TabIs Tryz.prog w "internal/strconv.uint64pow10" .u64 Lib.pow10Tab
theorem itoa {n : Int} (hG : HasPow e) (h0 : 0 ≤ n) (h1 : n ≤ 9223372036854775807) (hw : Owns e w As) : Calls Tryz.prog 133 #[.int .i64 n] w (Ret e fun u Bs => u = S (Lib.itoa n) ∧ Bs = As) := by
  refine below_ret hw (Calls.mono (Tryz.strconv_Itoa n (by omega) h1 w (hG w As hw)) ?_)
  rintro en w' ⟨rfl, k, os, rfl⟩
  exact ⟨_, rfl, rfl, Lib.below_grow _ w (Nat.le_refl _) k os⟩
theorem contains_one {c : UInt8} (hw : Owns e w As) : Calls Tryz.prog 143 #[S s, S [c]] w (Ret e fun u Bs => u = .bool (decide (0 ≤ Lib.indexByte s c)) ∧ Bs = As) := by
  refine below_ret hw (Calls.mono (Tryz.strings_Contains_one ⟨s.toArray⟩ c w) ?_)
  rintro en w' ⟨rfl, rfl⟩
  exact ⟨_, rfl, by simp, Below.refl _ _⟩
def hasPre (p s : Str) : Bool := decide (s.take p.length = p)
theorem hasPrefix' (_hs : s.length ≤ 1000000000) (hw : Owns e w As) : Calls Tryz.prog 158 #[S s, S t] w (Ret e fun u Bs => u = .bool (hasPre t s) ∧ Bs = As) := by
  refine enter Tryz.func158 rfl Tryz.ntmps158 hw rfl ?_
  refine Cod.seq ?_
  refine Cod.region ?_
  refine Ops.val (opV_assign rfl) rfl ?_
  refine Ops.nil ?_
  refine Ex.next ?_
  refine Cod.seq ?_
  refine Cod.region ?_
  refine Ops.val (opV_move rfl) rfl ?_
  refine Ops.val (opV_slen Fx.und_9 rfl) rfl ?_
  refine Ops.val (opV_move rfl) rfl ?_
  refine Ops.val (opV_slen Fx.und_9 rfl) rfl ?_
  refine Ops.val (opV_geq rfl rfl (by first | exact decide_eq_true (by omega) | exact decide_eq_false (by omega) | rfl)) rfl ?_
  refine Ops.val (opV_move rfl) rfl ?_
  refine Ops.cases 10 rfl (fun h => ?_) (fun h => ?_)
  · skip
    refine Ops.valg rfl (opV_move rfl) rfl ?_
    refine Ops.valg rfl (opV_move rfl) rfl ?_
    refine Ops.valg rfl (opV_slen Fx.und_9 rfl) rfl ?_
    refine Ops.valg rfl (opV_strslice Fx.und_9 rfl (p := s) (lo' := 0) (hi' := t.length) rfl ⟨_, rfl⟩ (by omega) (by simpa using h)) rfl ?_
    refine Ops.valg rfl (opV_move rfl) rfl ?_
    refine Ops.valg rfl (opV_seql rfl rfl rfl) rfl ?_
    refine Ops.val (opV_pickT rfl rfl) rfl ?_
    refine Ops.val (opV_assign rfl) rfl ?_
    refine Ops.nil ?_
    refine Ex.next ?_
    refine Cod.ret ?_
    exact Ex.ret1 rfl rfl (fun _ h => h.subs (by first | ((repeat (first | exact Sub.refl | exact Sub.nil | apply Sub.emp | (apply Sub.cons; focus ((repeat (first | exact Pick.hd | apply Pick.tl)); done)) | (apply Sub.con; focus ((repeat (first | exact Pick.hd | apply Pick.tl)); done)) | (apply Sub.app; focus ((repeat (first | exact Pick.hd | apply Pick.tl)); done)) | apply Sub.drop)); done) | ((repeat (first | rw [List.append_assoc] | rw [List.cons_append] | rw [List.nil_append] | rw [List.append_nil])); (repeat (first | exact Sub.refl | exact Sub.nil | apply Sub.emp | (apply Sub.cons; focus ((repeat (first | exact Pick.hd | apply Pick.tl)); done)) | (apply Sub.con; focus ((repeat (first | exact Pick.hd | apply Pick.tl)); done)) | (apply Sub.app; focus ((repeat (first | exact Pick.hd | apply Pick.tl)); done)) | apply Sub.drop)); done))) ⟨by simp [hasPre], rfl⟩
  · skip
    refine Ops.skipg rfl rfl ?_
    refine Ops.skipg rfl rfl ?_
    refine Ops.skipg rfl rfl ?_
    refine Ops.skipg rfl rfl ?_
    refine Ops.skipg rfl rfl ?_
    refine Ops.skipg rfl rfl ?_
    refine Ops.val (opV_pickF rfl rfl) rfl ?_
    refine Ops.val (opV_assign rfl) rfl ?_
    refine Ops.nil ?_
    refine Ex.next ?_
    refine Cod.ret ?_
    exact Ex.ret1 rfl rfl (fun _ h => h.subs (by first | ((repeat (first | exact Sub.refl | exact Sub.nil | apply Sub.emp | (apply Sub.cons; focus ((repeat (first | exact Pick.hd | apply Pick.tl)); done)) | (apply Sub.con; focus ((repeat (first | exact Pick.hd | apply Pick.tl)); done)) | (apply Sub.app; focus ((repeat (first | exact Pick.hd | apply Pick.tl)); done)) | apply Sub.drop)); done) | ((repeat (first | rw [List.append_assoc] | rw [List.cons_append] | rw [List.nil_append] | rw [List.append_nil])); (repeat (first | exact Sub.refl | exact Sub.nil | apply Sub.emp | (apply Sub.cons; focus ((repeat (first | exact Pick.hd | apply Pick.tl)); done)) | (apply Sub.con; focus ((repeat (first | exact Pick.hd | apply Pick.tl)); done)) | (apply Sub.app; focus ((repeat (first | exact Pick.hd | apply Pick.tl)); done)) | apply Sub.drop)); done))) ⟨by simp at h; simp [hasPre]; intro q; have := congrArg List.length q; simp at this; omega, rfl⟩
theorem hasPrefix (hs : s.length ≤ 1000000000) (hw : Owns e w As) : Calls Tryz.prog 82 #[S s, S t] w (Ret e fun u Bs => u = .bool (hasPre t s) ∧ Bs = As) := by
  refine enter Tryz.func82 rfl Tryz.ntmps82 hw rfl ?_
  refine Cod.seq ?_
  refine Cod.region ?_
  refine Ops.val (opV_assign rfl) rfl ?_
  refine Ops.nil ?_
  refine Ex.next ?_
  refine Cod.seq ?_
  refine Cod.region ?_
  refine Ops.val (opV_move rfl) rfl ?_
  refine Ops.val (opV_move rfl) rfl ?_
  refine Ops.call rfl (opC_call Fx.cal_158 rfl (fun w hw => hasPrefix' hs hw)) rfl ?_
  rintro v7 _ ⟨rfl, rfl⟩
  refine Ops.val (opV_assign rfl) rfl ?_
  refine Ops.nil ?_
  refine Ex.next ?_
  refine Cod.ret ?_
  exact Ex.ret1 rfl rfl (fun _ h => h.subs (by first | ((repeat (first | exact Sub.refl | exact Sub.nil | apply Sub.emp | (apply Sub.cons; focus ((repeat (first | exact Pick.hd | apply Pick.tl)); done)) | (apply Sub.con; focus ((repeat (first | exact Pick.hd | apply Pick.tl)); done)) | (apply Sub.app; focus ((repeat (first | exact Pick.hd | apply Pick.tl)); done)) | apply Sub.drop)); done) | ((repeat (first | rw [List.append_assoc] | rw [List.cons_append] | rw [List.nil_append] | rw [List.append_nil])); (repeat (first | exact Sub.refl | exact Sub.nil | apply Sub.emp | (apply Sub.cons; focus ((repeat (first | exact Pick.hd | apply Pick.tl)); done)) | (apply Sub.con; focus ((repeat (first | exact Pick.hd | apply Pick.tl)); done)) | (apply Sub.app; focus ((repeat (first | exact Pick.hd | apply Pick.tl)); done)) | apply Sub.drop)); done))) ⟨rfl, rfl⟩
theorem cutPrefix' (hs : s.length ≤ 1000000000) (hw : Owns e w As) : Calls Tryz.prog 248 #[S s, S t] w (Ret e fun u Bs => u = .tuple #[S (if hasPre t s then s.drop t.length else s), .bool (hasPre t s)] ∧ Bs = As) := by
  refine enter Tryz.func248 rfl Tryz.ntmps248 hw rfl ?_
  refine Cod.seq ?_
  refine Cod.region ?_
  refine Ops.val (opV_assign rfl) rfl ?_
  refine Ops.val (opV_assign rfl) rfl ?_
  refine Ops.nil ?_
  refine Ex.next ?_
  refine Cod.seq ?_
  refine Cod.seq ?_
  refine Cod.region ?_
  refine Ops.val (opV_move rfl) rfl ?_
  refine Ops.val (opV_move rfl) rfl ?_
  refine Ops.call rfl (opC_call Fx.cal_158 rfl (fun w hw => hasPrefix' hs hw)) rfl ?_
  rintro v8 _ ⟨rfl, rfl⟩
  refine Ops.val (opV_not rfl) rfl ?_
  refine Ops.nil ?_
  refine Ex.next ?_
  refine Cod.cond rfl (fun h => ?_) (fun h => ?_)
  · try simp at h
    have h' : hasPre t s = false := by simpa using h
    refine Cod.seq ?_
    refine Cod.region ?_
    refine Ops.val (opV_move rfl) rfl ?_
    refine Ops.val (opV_assign rfl) rfl ?_
    refine Ops.val (opV_assign rfl) rfl ?_
    refine Ops.nil ?_
    refine Ex.next ?_
    refine Cod.ret ?_
    refine Ex.thenRet ?_
    exact Ex.ret2 rfl rfl rfl (fun _ h => h.subs (by first | ((repeat (first | exact Sub.refl | exact Sub.nil | apply Sub.emp | (apply Sub.cons; focus ((repeat (first | exact Pick.hd | apply Pick.tl)); done)) | (apply Sub.con; focus ((repeat (first | exact Pick.hd | apply Pick.tl)); done)) | (apply Sub.app; focus ((repeat (first | exact Pick.hd | apply Pick.tl)); done)) | apply Sub.drop)); done) | ((repeat (first | rw [List.append_assoc] | rw [List.cons_append] | rw [List.nil_append] | rw [List.append_nil])); (repeat (first | exact Sub.refl | exact Sub.nil | apply Sub.emp | (apply Sub.cons; focus ((repeat (first | exact Pick.hd | apply Pick.tl)); done)) | (apply Sub.con; focus ((repeat (first | exact Pick.hd | apply Pick.tl)); done)) | (apply Sub.app; focus ((repeat (first | exact Pick.hd | apply Pick.tl)); done)) | apply Sub.drop)); done))) ⟨by simp [h'], rfl⟩
  · try simp at h
    have h' : hasPre t s = true := by simpa using h
    have hl : t.length ≤ s.length := by have := congrArg List.length (of_decide_eq_true h'); simp at this; omega
    refine Cod.skip ?_
    refine Ex.next ?_
    refine Cod.seq ?_
    refine Cod.region ?_
    refine Ops.val (opV_move rfl) rfl ?_
    refine Ops.val (opV_move rfl) rfl ?_
    refine Ops.val (opV_slen Fx.und_9 rfl) rfl ?_
    refine Ops.val (opV_strslice Fx.und_9 rfl (p := s) (lo' := t.length) (hi' := s.length) ⟨_, rfl⟩ rfl hl (Nat.le_refl _)) rfl ?_
    refine Ops.val (opV_assign rfl) rfl ?_
    refine Ops.val (opV_assign rfl) rfl ?_
    refine Ops.nil ?_
    refine Ex.next ?_
    refine Cod.ret ?_
    exact Ex.ret2 rfl rfl rfl (fun _ h => h.subs (by first | ((repeat (first | exact Sub.refl | exact Sub.nil | apply Sub.emp | (apply Sub.cons; focus ((repeat (first | exact Pick.hd | apply Pick.tl)); done)) | (apply Sub.con; focus ((repeat (first | exact Pick.hd | apply Pick.tl)); done)) | (apply Sub.app; focus ((repeat (first | exact Pick.hd | apply Pick.tl)); done)) | apply Sub.drop)); done) | ((repeat (first | rw [List.append_assoc] | rw [List.cons_append] | rw [List.nil_append] | rw [List.append_nil])); (repeat (first | exact Sub.refl | exact Sub.nil | apply Sub.emp | (apply Sub.cons; focus ((repeat (first | exact Pick.hd | apply Pick.tl)); done)) | (apply Sub.con; focus ((repeat (first | exact Pick.hd | apply Pick.tl)); done)) | (apply Sub.app; focus ((repeat (first | exact Pick.hd | apply Pick.tl)); done)) | apply Sub.drop)); done))) ⟨by simp [h', ← List.length_drop], rfl⟩
theorem cutPrefix (hs : s.length ≤ 1000000000) (hw : Owns e w As) : Calls Tryz.prog 201 #[S s, S t] w (Ret e fun u Bs => u = .tuple #[S (if hasPre t s then s.drop t.length else s), .bool (hasPre t s)] ∧ Bs = As) := by
  refine enter Tryz.func201 rfl Tryz.ntmps201 hw rfl ?_
  refine Cod.seq ?_
  refine Cod.region ?_
  refine Ops.val (opV_assign rfl) rfl ?_
  refine Ops.val (opV_assign rfl) rfl ?_
  refine Ops.nil ?_
  refine Ex.next ?_
  refine Cod.seq ?_
  refine Cod.region ?_
  refine Ops.val (opV_move rfl) rfl ?_
  refine Ops.val (opV_move rfl) rfl ?_
  refine Ops.call rfl (opC_call Fx.cal_248 rfl (fun w hw => cutPrefix' hs hw)) rfl ?_
  rintro v8 _ ⟨rfl, rfl⟩
  refine Ops.val (opV_extract rfl rfl) rfl ?_
  refine Ops.val (opV_extract rfl rfl) rfl ?_
  refine Ops.val (opV_assign rfl) rfl ?_
  refine Ops.val (opV_assign rfl) rfl ?_
  refine Ops.nil ?_
  refine Ex.next ?_
  refine Cod.ret ?_
  exact Ex.ret2 rfl rfl rfl (fun _ h => h.subs (by first | ((repeat (first | exact Sub.refl | exact Sub.nil | apply Sub.emp | (apply Sub.cons; focus ((repeat (first | exact Pick.hd | apply Pick.tl)); done)) | (apply Sub.con; focus ((repeat (first | exact Pick.hd | apply Pick.tl)); done)) | (apply Sub.app; focus ((repeat (first | exact Pick.hd | apply Pick.tl)); done)) | apply Sub.drop)); done) | ((repeat (first | rw [List.append_assoc] | rw [List.cons_append] | rw [List.nil_append] | rw [List.append_nil])); (repeat (first | exact Sub.refl | exact Sub.nil | apply Sub.emp | (apply Sub.cons; focus ((repeat (first | exact Pick.hd | apply Pick.tl)); done)) | (apply Sub.con; focus ((repeat (first | exact Pick.hd | apply Pick.tl)); done)) | (apply Sub.app; focus ((repeat (first | exact Pick.hd | apply Pick.tl)); done)) | apply Sub.drop)); done))) ⟨rfl, rfl⟩
end
end Go.Proofs.YteejmoldhbfdnaaGreatDoor.Kit
