/- Atoi, sorted keys over owned heaps: by the kit's contracts. -/
import Derived.Test.YteejmoldhbfdnaaGreatDoorKit
import Derived.Test.YteejmoldhbfdnaaGreatDoorDisk2
import Derived.Test.YteejmoldhbfdnaaGreatDoorKeys
namespace Go.Proofs.YteejmoldhbfdnaaGreatDoor.Kit
open Go.W Go.RowKit Disk
namespace Fx
theorem cal_142 : callable Tryz.prog 142 = true := by kernel_rfl
theorem cal_80 : callable Tryz.prog 80 = true := by kernel_rfl
theorem fld_144_0 : fieldOff Tryz.prog 144 0 = some 0 := by kernel_rfl
theorem scal_141 : scalarB Tryz.prog 141 = true := by kernel_rfl

end Fx
section
variable {e : Ctx} {w : World} {As F : List Hp} {A : Hp} {s t : Str} {p : Nat} {D : DK}
/-- The errors' variables hold something that is comparable with nil. -/
def HasErr (e : Ctx) : Prop := ∀ w As, Owns e w As → (∃ t x, w.cell? ⟨2, 0, none⟩ = some (.iface t x)) ∧ (∃ t x, w.cell? ⟨3, 0, none⟩ = some (.iface t x))
theorem atoi (hG : HasErr e) (hs : s.length ≤ 1000000) (hw : Owns e w As) : Calls Tryz.prog 202 #[S s] w (Ret e fun u Bs => ∃ k err, u = .tuple #[.int .i64 k, err] ∧
    ((err = .nilIface ∧ Lib.atoiAll s = .ok k) ∨ ((∃ t x, err = .iface t x) ∧ ∀ v, Lib.atoiAll s ≠ .ok v)) ∧ Bs = As) := by
  have hsz : (⟨s.toArray⟩ : ByteArray).size ≤ 1000000 := by rw [size_S]; exact hs
  have hl : (⟨s.toArray⟩ : ByteArray).data.toList = s := by simp
  obtain ⟨⟨t2, x2, h2⟩, ⟨t3, x3, h3⟩⟩ := hG w As hw
  have key : Calls Tryz.prog 202 #[S s] w fun en w' => ∃ v, en = .returned v ∧ (∃ k err, v = .tuple #[.int .i64 k, err] ∧
      ((err = .nilIface ∧ Lib.atoiAll s = .ok k) ∨ ((∃ t x, err = .iface t x) ∧ ∀ v, Lib.atoiAll s ≠ .ok v))) ∧ Below w.heap.size w w' := by
    have h0 : ∀ x, Lib.atoiAll s = x → Lib.atoiAll (⟨s.toArray⟩ : ByteArray).data.toList = x := fun x h => by rw [hl]; exact h
    cases hq : Lib.atoiAll s
    · rename_i v
      refine Calls.mono (Tryz.strconv_Atoi_ok ⟨s.toArray⟩ (by omega) v (h0 _ hq) w) ?_
      rintro en w' ⟨rfl, hw'⟩
      refine ⟨_, rfl, ⟨v, .nilIface, rfl, .inl ⟨rfl, rfl⟩⟩, ?_⟩
      rcases hw' with rfl | ⟨t, rfl⟩
      · exact Below.refl _ _
      · exact ⟨rfl, rfl, rfl, by rw [Lib.bytesWorld_size]; omega, fun k hk => Lib.bytesWorld_at_old w 5 _ k hk⟩
    · refine Calls.mono (Tryz.strconv_Atoi_syntax ⟨s.toArray⟩ (by omega) (h0 _ hq) _ w h2 (.inr ⟨_, _, rfl⟩)) ?_
      rintro en w' ⟨N, rfl, _, _, hb⟩
      exact ⟨_, rfl, ⟨0, _, rfl, .inr ⟨⟨_, _, rfl⟩, fun v h => by cases h⟩⟩, hb⟩
    · refine Calls.mono (Tryz.strconv_Atoi_range ⟨s.toArray⟩ (by omega) (h0 _ hq) _ w h3 (.inr ⟨_, _, rfl⟩)) ?_
      rintro en w' ⟨N, rfl, _, _, hb⟩
      exact ⟨_, rfl, ⟨_, _, rfl, .inr ⟨⟨_, _, rfl⟩, fun v h => by cases h⟩⟩, hb⟩
  refine Calls.mono (below_ret hw key) ?_
  intro en w' hR
  exact hR.mono fun v Bs ⟨⟨k, err, h1, h2⟩, h3⟩ w h => ⟨Bs, ⟨k, err, h1, h2, h3⟩, h⟩
theorem some_of_mem {κ V : Type} [MKey κ] {x : κ × V} {m : List (κ × V)} (h : x ∈ m) : (lkp x.1 m).isSome = true := by
  cases hq : lkp x.1 m with
  | none => exact absurd (List.mem_map.2 ⟨x, h, rfl⟩) (lkp_none.1 hq)
  | some v => rfl
theorem names (hn : D.files.length ≤ 1000000000) (hk : ∀ x, (lkp x D.files).isSome = true → x.length ≤ 1000000000) (hw : Owns e w As) (hA : Has e As A) (hD : DiskA p D A) : Calls Tryz.prog 75 #[.pointer (some ⟨p, 0, none⟩)] w
    (Ret e fun u Bs => ∃ ns A', Row 9 1 u ns.length (ns.map S) A' ∧ ns = (D.files.map Prod.fst).mergeSort (fun x y => decide (x ≤ y)) ∧ Bs = A' :: As) := by
  obtain ⟨mb, ob, pv, ps, FA, PR, PA, kvs, hM, hF, hR, hP, rfl⟩ := hD
  have hkeys := MapH.keys hF
  have hlen : kvs.length = D.files.length := by have := congrArg List.length hkeys; simpa using this
  have hkl : ∀ x ∈ kvs, x.1.length ≤ 1000000000 := fun x hx => hk x.1 (by
    have h1 := some_of_mem hx
    cases hq : lkp x.1 D.files with
    | none => rw [(MapH.none_iff hF).2 hq] at h1; cases h1
    | some y => rfl)
  refine enter Tryz.func75 rfl Tryz.ntmps75 hw rfl ?_
  refine Cod.seq ?_
  refine Cod.region ?_
  refine Ops.val (opV_assign rfl) rfl ?_
  refine Ops.nil ?_
  refine Ex.next ?_
  refine Cod.seq ?_
  refine Cod.region ?_
  refine Ops.val (opV_move rfl) rfl ?_
  refine Ops.val (opV_nil rfl) rfl ?_
  refine Ops.val (opV_field Fx.fld_144_0 rfl) rfl ?_
  refine Ops.val (opV_load Fx.scal_141 rfl (cellOf hA (List.Mem.head _) rfl)) rfl ?_
  refine Ops.call rfl (opC_call Fx.cal_142 rfl (fun w hw => Keys.keys142 hw hA)) rfl ?_
  rintro v7 _ ⟨q, rfl, rfl⟩
  refine Ops.call rfl (opC_call Fx.cal_80 rfl (fun w hw => Keys.sorted142 (kvs := kvs) hw (.mem (by repeat (first | exact List.Mem.head _ | apply List.Mem.tail))) (List.Mem.head _) hA.up (.tail _ (.head _)) hM (by omega) hkl)) rfl ?_
  rintro v8 _ ⟨ns, A', hA', hns, rfl⟩
  refine Ops.val (opV_assign rfl) rfl ?_
  refine Ops.nil ?_
  refine Ex.next ?_
  refine Cod.ret ?_
  exact Ex.ret1 rfl rfl (fun _ h => h.subs (by first | ((repeat (first | exact Sub.refl | exact Sub.nil | apply Sub.emp | (apply Sub.cons; focus ((repeat (first | exact Pick.hd | apply Pick.tl)); done)) | (apply Sub.con; focus ((repeat (first | exact Pick.hd | apply Pick.tl)); done)) | (apply Sub.app; focus ((repeat (first | exact Pick.hd | apply Pick.tl)); done)) | apply Sub.drop)); done) | ((repeat (first | rw [List.append_assoc] | rw [List.cons_append] | rw [List.nil_append] | rw [List.append_nil])); (repeat (first | exact Sub.refl | exact Sub.nil | apply Sub.emp | (apply Sub.cons; focus ((repeat (first | exact Pick.hd | apply Pick.tl)); done)) | (apply Sub.con; focus ((repeat (first | exact Pick.hd | apply Pick.tl)); done)) | (apply Sub.app; focus ((repeat (first | exact Pick.hd | apply Pick.tl)); done)) | apply Sub.drop)); done))) ⟨ns, A', hA', by rw [hns, hkeys], rfl⟩
end
end Go.Proofs.YteejmoldhbfdnaaGreatDoor.Kit
