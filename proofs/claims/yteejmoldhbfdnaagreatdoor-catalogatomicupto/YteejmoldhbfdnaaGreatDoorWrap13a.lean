/- CatalogAtomic: the contract that the row asks for, second form. -/
import Derived.Test.YteejmoldhbfdnaaGreatDoorWitB
import Derived.Test.YteejmoldhbfdnaaGreatDoorOpen2
import Derived.Test.YteejmoldhbfdnaaGreatDoorAtom13
namespace Go.Proofs.YteejmoldhbfdnaaGreatDoor
open Go.ChangeShapes Go.WideShapes Go.ChangeAt Go.RowKit Go.Deep Go.W CatL
set_option maxRecDepth 100000 in
theorem contract13a (H : Type) (enc : TypeId × Value → H) (W : World) (base : Nat) (args : Array Value) (ds gs : List (DataW H)) (before : List MemPlace)
    (hval : ∀ (j : Nat) t v, Tryz.f4.params[j]? = some t → args[j]? = some v → Value.okWide Tryz.prog W .any base t v)
    (hW : DataW.Whole enc Tryz.prog Tryz.f4.params.toList Rows.catalogAtomicSpec.vars false W args.toList ds gs before) (hk : Rows.uptoSmall H (ds ++ gs) = true) (hL : laidMetH Tryz.prog Rows.bodiesFullRow.laid W) :
    Calls Tryz.prog 4 args W fun e W' => ∃ v, e = .returned v ∧ Rows.catalogAtomicSpec.post enc Tryz.prog Tryz.f4 false true false false W args v W' := by
  have hW' := hW
  obtain ⟨p, q, hA0, hV, rfl, hfz, hnd⟩ := hW
  have hA : DataW.TrodAll enc Tryz.prog W 0 (fun _ => true) true Tryz.f4.params.toList args.toList ds p := hA0
  rw [Tryz.params4] at hA hval
  obtain ⟨v0, v1, v2, d0, d1, d2, p0, p1, p2, rfl, rfl, rfl, h0, h1, h2⟩ := trodAll_three hA
  obtain ⟨rfl, rfl⟩ := trodVars_none hV
  obtain ⟨a0, l0, c0, rfl⟩ := okWide_slice Tryz.underlying39 (hval 0 39 v0 rfl rfl)
  obtain ⟨a1, l1, c1, rfl⟩ := okWide_slice Tryz.underlying39 (hval 1 39 v1 rfl rfl)
  obtain ⟨fs, rfl, _⟩ := okWide_struct Tryz.underlying42 (hval 2 42 v2 rfl rfl)
  have h0k := h0
  have h1k := h1
  have h2k := h2
  obtain ⟨fuel0, f0⟩ := h0
  obtain ⟨fuel1, f1⟩ := h1
  obtain ⟨fuel2, f2⟩ := h2
  clear hA0
  simp only [List.append_nil] at hW'
  have hlt0 : ∀ x ∈ p0, x.block < W.heap.size := fun x hx => hW'.lt x (by simp [hx])
  have hlt1 : ∀ x ∈ p1, x.block < W.heap.size := fun x hx => hW'.lt x (by simp [hx])
  have hlt2 : ∀ x ∈ p2, x.block < W.heap.size := fun x hx => hW'.lt x (by simp [hx])
  obtain ⟨hG, hE⟩ := glob_of hL
  have hk' := of_decide_eq_true hk
  simp only [Rows.uptoBulkAll, List.append_nil] at hk'
  obtain ⟨w0, first, e0, hs0, hb0⟩ := openChs f0
  obtain ⟨w1, second, e1, hs1, hb1⟩ := openChs f1
  obtain ⟨kv, keep, tear, e2, hs2, hb2, _⟩ := openFate f2
  simp [Value.cells] at e0 e1 e2
  subst e0 e1
  obtain rfl : fs = #[kv, .int .i64 tear] := by cases fs; simp at e2; rw [e2]
  dsimp only at hb0 hb1 hb2
  refine (Atom13.atomic (e := ctxOf W) hG hE (by omega) (by omega) hs0 hs1 hs2 (owns0 W)).mono fun e W' hr => ?_
  match e, hr with
  | .returned u, ⟨Bs, hu, ho⟩ =>
    subst hu
    have hb : Below W.heap.size W W' := ho.below0
    refine ⟨_, rfl, ⟨_, _, _, [], p0 ++ (p1 ++ p2), [], hW', ?_, ?_, ?_, hb.frame _, fun h => by cases h⟩⟩
    · exact trodAll_mk1 (shut_bool Tryz.underlying4 _)
    · exact trodAll_mk3 (Below.trod WB.laidOut (by kernel_rfl) (of_decide_eq_true (by kernel_rfl)) h0k hb hlt0) (Below.trod WB.laidOut (by kernel_rfl) (of_decide_eq_true (by kernel_rfl)) h1k hb hlt1) (Below.trod WB.laidOut (by kernel_rfl) (of_decide_eq_true (by kernel_rfl)) h2k hb hlt2)
    · rfl
end Go.Proofs.YteejmoldhbfdnaaGreatDoor
