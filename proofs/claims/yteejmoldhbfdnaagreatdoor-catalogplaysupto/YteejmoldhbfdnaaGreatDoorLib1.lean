/- Small functions of Go's library at this program's types. -/
import Derived.Test.YteejmoldhbfdnaaGreatDoorBase
namespace Go.Proofs.YteejmoldhbfdnaaGreatDoor.Lib1
open Go.W Go.RowKit
namespace Fx
theorem ni_29 : notInt Tryz.prog 29 = true := by kernel_rfl
theorem ni_39 : notInt Tryz.prog 39 = true := by kernel_rfl
theorem ni_77 : notInt Tryz.prog 77 = true := by kernel_rfl
theorem sl_29 : slInfo Tryz.prog 29 = some (5, 1, 1, some (.int .u8 0)) := by kernel_rfl
theorem sl_39 : slInfo Tryz.prog 39 = some (51, 3, 40, some (.agg #[(S []), (S []), (.bool false)])) := by kernel_rfl
theorem sl_77 : slInfo Tryz.prog 77 = some (3, 1, 8, some (.int .i64 0)) := by kernel_rfl

end Fx

theorem clone_bytes {e : Ctx} {w : World} {As : List Hp} {A : Hp} {v : Value} {m : Nat} {xs : List Value} (hw : Owns e w As) (hv : Sl A 1 v m xs) (hA : Has e As A) (h1 : ∀ u ∈ xs, u.oneCell' = true) (hb : m * 1 ≤ 140737488355328) (hm : m ≤ 140737488355328) :
    Calls Tryz.prog 61 #[v] w (Ret e fun u Bs => ∃ A', Row 5 1 u m xs A' ∧ Bs = A' :: As) := by
  obtain ⟨a, cap, rfl⟩ := hv.isSlice
  refine enter Tryz.func61 rfl Tryz.ntmps61 hw rfl ?_
  refine Cod.seq ?_
  refine Cod.region ?_
  refine Ops.val (opV_assign rfl) rfl ?_
  refine Ops.nil ?_
  refine Ex.next ?_
  refine Cod.seq ?_
  refine Cod.seq ?_
  refine Cod.region ?_
  refine Ops.val (opV_move rfl) rfl ?_
  refine Ops.val (opV_slnil Fx.sl_29 rfl rfl rfl) rfl ?_
  refine Ops.nil ?_
  refine Ex.next ?_
  refine Cod.cond rfl (fun hn => ?_) (fun hn => ?_)
  · try simp at hn
    have hz : m = 0 ∧ xs = [] := by
        rcases hv.2 with ⟨_, h2⟩ | ⟨g, o, c, cur, T, fz, h, _⟩
        · exact ⟨h2, List.eq_nil_of_length_eq_zero (by simp [hv.1, h2])⟩
        · cases h; simp at hn
    obtain ⟨rfl, rfl⟩ := hz
    refine Cod.seq ?_
    refine Cod.region ?_
    refine Ops.val (opV_assign rfl) rfl ?_
    refine Ops.nil ?_
    refine Ex.next ?_
    refine Cod.ret ?_
    refine Ex.thenRet ?_
    exact Ex.ret1 rfl rfl (fun _ h => h.sub (by simp)) ⟨[], Row.nil _ _, rfl⟩
  · try simp at hn
    refine Cod.skip ?_
    refine Ex.next ?_
    refine Cod.seq ?_
    refine Cod.region ?_
    refine Ops.eff rfl (opE_buildSlice0 Fx.sl_29) rfl ?_
    rintro _ _ ⟨b5, rfl, rfl⟩
    refine Ops.val (opV_move rfl) rfl ?_
    refine Ops.eff rfl (opE_append Fx.sl_29 rfl Fx.ni_29 rfl rfl .hd (Row.made (n := 0) rfl (by simp [maxLen])) (hv.src (by cases hA with | base => exact .base | mem h => exact .mem (.tail _ h)) h1) (by omega) (by simp [maxLen]; omega)) rfl ?_
    rintro v7 _ ⟨A7, hA7, rfl⟩
    simp only [Nat.zero_add, List.nil_append] at hA7
    refine Ops.val (opV_assign rfl) rfl ?_
    refine Ops.nil ?_
    refine Ex.next ?_
    refine Cod.ret ?_
    exact Ex.ret1 rfl rfl (fun _ h => h.subs (by first | ((repeat (first | exact Sub.refl | exact Sub.nil | apply Sub.emp | (apply Sub.cons; focus ((repeat (first | exact Pick.hd | apply Pick.tl)); done)) | (apply Sub.con; focus ((repeat (first | exact Pick.hd | apply Pick.tl)); done)) | (apply Sub.app; focus ((repeat (first | exact Pick.hd | apply Pick.tl)); done)) | apply Sub.drop)); done) | ((repeat (first | rw [List.append_assoc] | rw [List.cons_append] | rw [List.nil_append] | rw [List.append_nil])); (repeat (first | exact Sub.refl | exact Sub.nil | apply Sub.emp | (apply Sub.cons; focus ((repeat (first | exact Pick.hd | apply Pick.tl)); done)) | (apply Sub.con; focus ((repeat (first | exact Pick.hd | apply Pick.tl)); done)) | (apply Sub.app; focus ((repeat (first | exact Pick.hd | apply Pick.tl)); done)) | apply Sub.drop)); done))) ⟨A7, hA7, rfl⟩

theorem clone_ints {e : Ctx} {w : World} {As : List Hp} {A : Hp} {v : Value} {m : Nat} {xs : List Value} (hw : Owns e w As) (hv : Sl A 1 v m xs) (hA : Has e As A) (h1 : ∀ u ∈ xs, u.oneCell' = true) (hb : m * 8 ≤ 140737488355328) (hm : m ≤ 140737488355328) :
    Calls Tryz.prog 89 #[v] w (Ret e fun u Bs => ∃ A', Row 3 1 u m xs A' ∧ Bs = A' :: As) := by
  obtain ⟨a, cap, rfl⟩ := hv.isSlice
  refine enter Tryz.func89 rfl Tryz.ntmps89 hw rfl ?_
  refine Cod.seq ?_
  refine Cod.region ?_
  refine Ops.val (opV_assign rfl) rfl ?_
  refine Ops.nil ?_
  refine Ex.next ?_
  refine Cod.seq ?_
  refine Cod.seq ?_
  refine Cod.region ?_
  refine Ops.val (opV_move rfl) rfl ?_
  refine Ops.val (opV_slnil Fx.sl_77 rfl rfl rfl) rfl ?_
  refine Ops.nil ?_
  refine Ex.next ?_
  refine Cod.cond rfl (fun hn => ?_) (fun hn => ?_)
  · try simp at hn
    have hz : m = 0 ∧ xs = [] := by
        rcases hv.2 with ⟨_, h2⟩ | ⟨g, o, c, cur, T, fz, h, _⟩
        · exact ⟨h2, List.eq_nil_of_length_eq_zero (by simp [hv.1, h2])⟩
        · cases h; simp at hn
    obtain ⟨rfl, rfl⟩ := hz
    refine Cod.seq ?_
    refine Cod.region ?_
    refine Ops.val (opV_assign rfl) rfl ?_
    refine Ops.nil ?_
    refine Ex.next ?_
    refine Cod.ret ?_
    refine Ex.thenRet ?_
    exact Ex.ret1 rfl rfl (fun _ h => h.sub (by simp)) ⟨[], Row.nil _ _, rfl⟩
  · try simp at hn
    refine Cod.skip ?_
    refine Ex.next ?_
    refine Cod.seq ?_
    refine Cod.region ?_
    refine Ops.eff rfl (opE_buildSlice0 Fx.sl_77) rfl ?_
    rintro _ _ ⟨b5, rfl, rfl⟩
    refine Ops.val (opV_move rfl) rfl ?_
    refine Ops.eff rfl (opE_append Fx.sl_77 rfl Fx.ni_77 rfl rfl .hd (Row.made (n := 0) rfl (by simp [maxLen])) (hv.src (by cases hA with | base => exact .base | mem h => exact .mem (.tail _ h)) h1) (by omega) (by simp [maxLen]; omega)) rfl ?_
    rintro v7 _ ⟨A7, hA7, rfl⟩
    simp only [Nat.zero_add, List.nil_append] at hA7
    refine Ops.val (opV_assign rfl) rfl ?_
    refine Ops.nil ?_
    refine Ex.next ?_
    refine Cod.ret ?_
    exact Ex.ret1 rfl rfl (fun _ h => h.subs (by first | ((repeat (first | exact Sub.refl | exact Sub.nil | apply Sub.emp | (apply Sub.cons; focus ((repeat (first | exact Pick.hd | apply Pick.tl)); done)) | (apply Sub.con; focus ((repeat (first | exact Pick.hd | apply Pick.tl)); done)) | (apply Sub.app; focus ((repeat (first | exact Pick.hd | apply Pick.tl)); done)) | apply Sub.drop)); done) | ((repeat (first | rw [List.append_assoc] | rw [List.cons_append] | rw [List.nil_append] | rw [List.append_nil])); (repeat (first | exact Sub.refl | exact Sub.nil | apply Sub.emp | (apply Sub.cons; focus ((repeat (first | exact Pick.hd | apply Pick.tl)); done)) | (apply Sub.con; focus ((repeat (first | exact Pick.hd | apply Pick.tl)); done)) | (apply Sub.app; focus ((repeat (first | exact Pick.hd | apply Pick.tl)); done)) | apply Sub.drop)); done))) ⟨A7, hA7, rfl⟩

theorem clone_changes {e : Ctx} {w : World} {As : List Hp} {A : Hp} {v : Value} {m : Nat} {xs : List Value} (hw : Owns e w As) (hv : Sl A 3 v m xs) (hA : Has e As A) (h1 : ∀ u ∈ xs, u.oneCell' = true) (hb : m * 40 ≤ 140737488355328) (hm : m ≤ 140737488355328) :
    Calls Tryz.prog 69 #[v] w (Ret e fun u Bs => ∃ A', Row 51 3 u m xs A' ∧ Bs = A' :: As) := by
  obtain ⟨a, cap, rfl⟩ := hv.isSlice
  refine enter Tryz.func69 rfl Tryz.ntmps69 hw rfl ?_
  refine Cod.seq ?_
  refine Cod.region ?_
  refine Ops.val (opV_assign rfl) rfl ?_
  refine Ops.nil ?_
  refine Ex.next ?_
  refine Cod.seq ?_
  refine Cod.seq ?_
  refine Cod.region ?_
  refine Ops.val (opV_move rfl) rfl ?_
  refine Ops.val (opV_slnil Fx.sl_39 rfl rfl rfl) rfl ?_
  refine Ops.nil ?_
  refine Ex.next ?_
  refine Cod.cond rfl (fun hn => ?_) (fun hn => ?_)
  · try simp at hn
    have hz : m = 0 ∧ xs = [] := by
        rcases hv.2 with ⟨_, h2⟩ | ⟨g, o, c, cur, T, fz, h, _⟩
        · exact ⟨h2, List.eq_nil_of_length_eq_zero (by simp [hv.1, h2])⟩
        · cases h; simp at hn
    obtain ⟨rfl, rfl⟩ := hz
    refine Cod.seq ?_
    refine Cod.region ?_
    refine Ops.val (opV_assign rfl) rfl ?_
    refine Ops.nil ?_
    refine Ex.next ?_
    refine Cod.ret ?_
    refine Ex.thenRet ?_
    exact Ex.ret1 rfl rfl (fun _ h => h.sub (by simp)) ⟨[], Row.nil _ _, rfl⟩
  · try simp at hn
    refine Cod.skip ?_
    refine Ex.next ?_
    refine Cod.seq ?_
    refine Cod.region ?_
    refine Ops.eff rfl (opE_buildSlice0 Fx.sl_39) rfl ?_
    rintro _ _ ⟨b5, rfl, rfl⟩
    refine Ops.val (opV_move rfl) rfl ?_
    refine Ops.eff rfl (opE_append Fx.sl_39 rfl Fx.ni_39 rfl rfl .hd (Row.made (n := 0) rfl (by simp [maxLen])) (hv.src (by cases hA with | base => exact .base | mem h => exact .mem (.tail _ h)) h1) (by omega) (by simp [maxLen]; omega)) rfl ?_
    rintro v7 _ ⟨A7, hA7, rfl⟩
    simp only [Nat.zero_add, List.nil_append] at hA7
    refine Ops.val (opV_assign rfl) rfl ?_
    refine Ops.nil ?_
    refine Ex.next ?_
    refine Cod.ret ?_
    exact Ex.ret1 rfl rfl (fun _ h => h.subs (by first | ((repeat (first | exact Sub.refl | exact Sub.nil | apply Sub.emp | (apply Sub.cons; focus ((repeat (first | exact Pick.hd | apply Pick.tl)); done)) | (apply Sub.con; focus ((repeat (first | exact Pick.hd | apply Pick.tl)); done)) | (apply Sub.app; focus ((repeat (first | exact Pick.hd | apply Pick.tl)); done)) | apply Sub.drop)); done) | ((repeat (first | rw [List.append_assoc] | rw [List.cons_append] | rw [List.nil_append] | rw [List.append_nil])); (repeat (first | exact Sub.refl | exact Sub.nil | apply Sub.emp | (apply Sub.cons; focus ((repeat (first | exact Pick.hd | apply Pick.tl)); done)) | (apply Sub.con; focus ((repeat (first | exact Pick.hd | apply Pick.tl)); done)) | (apply Sub.app; focus ((repeat (first | exact Pick.hd | apply Pick.tl)); done)) | apply Sub.drop)); done))) ⟨A7, hA7, rfl⟩

end Go.Proofs.YteejmoldhbfdnaaGreatDoor.Lib1
