/- BodiesFull: the row and the card, second form. -/
import Derived.Test.YteejmoldhbfdnaaGreatDoorGlob14
import Derived.Test.YteejmoldhbfdnaaGreatDoorBulk
import Derived.Test.YteejmoldhbfdnaaGreatDoorTie
import Derived.WalkKit
import Derived.ProofKit
import Derived.OpenShut
import Derived.Deep.DeepHandedRow
import Derived.Deep.DeepWitnessRowRef
namespace Go.Proofs.YteejmoldhbfdnaaGreatDoor
open Go.ChangeShapes Go.WideShapes Go.ChangeAt Go.RowKit Go.Deep Go.W Seal
theorem own' : ownKnob Tryz.prog.godebug = none := by kernel_rfl
theorem laidOut' : laidOutB Tryz.prog = true := by kernel_rfl
theorem gc29 : Tryz.prog.cellsOf 29 = 1 := by kernel_rfl
theorem gc5 : Tryz.prog.cellsOf 5 = 1 := by kernel_rfl
set_option maxRecDepth 100000 in
theorem contract14 (H : Type) (enc : TypeId × Value → H) (W : World) (base : Nat) (args : Array Value) (ds gs : List (DataW H)) (before : List MemPlace)
    (hval : ∀ (j : Nat) t v, Tryz.f3.params[j]? = some t → args[j]? = some v → Value.okWide Tryz.prog W .any base t v)
    (hW : DataW.Whole enc Tryz.prog Tryz.f3.params.toList Rows.bodiesFullSpec.vars false W args.toList ds gs before) (hk : Rows.uptoSmall H (ds ++ gs) = true) (hL : laidMetH Tryz.prog Rows.bodiesFullRow.laid W) :
    Calls Tryz.prog 3 args W fun e W' => ∃ v, e = .returned v ∧ Rows.bodiesFullSpec.post enc Tryz.prog Tryz.f3 false true false false W args v W' := by
  have hW' := hW
  obtain ⟨p, q, hA0, hV, rfl, hfz, hnd⟩ := hW
  have hA : DataW.TrodAll enc Tryz.prog W 0 (fun _ => true) true Tryz.f3.params.toList args.toList ds p := hA0
  rw [Tryz.params3] at hA hval
  obtain ⟨v0, v1, d0, d1, p0, p1, rfl, rfl, rfl, h0, h1⟩ := trodAll_two hA
  obtain ⟨rfl, rfl⟩ := trodVars_none hV
  obtain ⟨space, rfl, rfl, rfl, wa⟩ := open_int Tryz.underlying3 (hval 0 3 v0 rfl rfl) h0
  obtain ⟨a0, len, cap, rfl⟩ := okWide_slice Tryz.underlying22 (hval 1 22 v1 rfl rfl)
  have h1k := h1
  obtain ⟨fuel, hf⟩ := h1
  clear hA0
  simp only [List.append_nil, List.nil_append] at hW'
  have hlt : ∀ x ∈ p1, x.block < W.heap.size := fun x hx => hW'.lt x (by simp [hx])
  obtain ⟨hG, hE⟩ := glob_of hL
  have hsp := bounds_i64 wa
  obtain ⟨vs, bs, hv, hbs, hsum⟩ : ∃ vs bs, Sl (baseOf W) 1 (.slice a0 len cap) bs.length vs ∧ BL (baseOf W) vs bs ∧ (bs.map fun b => b.length + 64).sum ≤ 700000000 := by
    rcases open_int_rows Tryz.underlying22 Tryz.underlying29 Tryz.underlying5 gc29 gc5 hf with ⟨hcs0, hx⟩ | ⟨a, len', cap', A, L, C, Z, hcs0, _, hl, hm, hx, hrows⟩
    · simp [Value.cells] at hcs0
      obtain ⟨rfl, rfl, rfl⟩ := hcs0
      exact ⟨[], [], ⟨rfl, .inl ⟨⟨_, _, rfl⟩, rfl⟩⟩, .nil, by simp⟩
    · simp [Value.cells] at hcs0
      obtain ⟨rfl, rfl, rfl⟩ := hcs0
      simp only [Prod.mk.injEq] at hx
      obtain ⟨rfl, rfl⟩ := hx
      obtain ⟨vs, bs, h2, h3, rfl⟩ := rows_base hl hrows
      have hb : ∀ r, r < len → (octs ((Z r).take (L r))).length = L r := fun r hr => by
        obtain ⟨_, g1, _, g3, _⟩ := hrows r (by omega)
        simp [octs]; omega
      refine ⟨vs, _, by simpa using h2, h3, ?_⟩
      have := bulk_rows (H := H) (L := L) (f := fun r => intRow .u8 (A r) (L r) (Z r)) len fun r hr => by
        obtain ⟨_, g1, _, g3, _, g5, _⟩ := hrows r (by omega)
        exact bulk_row (by omega) fun h => by have := g5 h; omega
      have e1 : ((List.range len).map fun r => octs ((Z r).take (L r))).map (fun b => b.length + 64) = (List.range len).map fun r => L r + 64 := by
        rw [List.map_map]
        exact List.map_congr_left fun r hr => by simp [hb r (List.mem_range.1 hr)]
      rw [e1]
      have hk' := of_decide_eq_true hk
      simp [Rows.uptoBulkAll, Rows.uptoBulk] at hk'
      omega
  refine (Full14.bodiesFull (e := ctxOf W) hG hE ⟨by omega, by omega⟩ hsum hv hbs (owns0 W)).mono fun e W' hr => ?_
  match e, hr with
  | .returned u, ⟨Bs, hu, ho⟩ =>
    subst hu
    have hb : Below W.heap.size W W' := ho.below0
    refine ⟨_, rfl, ⟨_, _, _, [], p1, [], hW', ?_, ?_, ?_, hb.frame _, fun h => by cases h⟩⟩
    · exact trodAll_mk1 (shut_bool Tryz.underlying4 _)
    · exact trodAll_mk2 (shut_int Tryz.underlying3 wa) (Below.trod laidOut' (by kernel_rfl) (of_decide_eq_true (by kernel_rfl)) h1k hb hlt)
    · rfl
end Go.Proofs.YteejmoldhbfdnaaGreatDoor
