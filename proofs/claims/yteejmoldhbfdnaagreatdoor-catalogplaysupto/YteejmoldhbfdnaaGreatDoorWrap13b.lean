/- CatalogPlays: the contract that the row asks for, second form. -/
import Derived.Test.YteejmoldhbfdnaaGreatDoorWitB
import Derived.Test.YteejmoldhbfdnaaGreatDoorOpen2
import Derived.Test.YteejmoldhbfdnaaGreatDoorPlays13
namespace Go.Proofs.YteejmoldhbfdnaaGreatDoor
open Go.ChangeShapes Go.WideShapes Go.ChangeAt Go.RowKit Go.Deep Go.W CatL
theorem len5 {α : Type} : ∀ {l : List α}, l.length = 5 → ∃ a b c d e, l = [a, b, c, d, e]
  | [a, b, c, d, e], _ => ⟨a, b, c, d, e, rfl⟩
theorem gc63 : Tryz.prog.cellsOf 63 = 5 := by kernel_rfl
theorem gc39 : Tryz.prog.cellsOf 39 = 1 := by kernel_rfl
section
variable {H : Type} {enc : TypeId × Value → H} {W : World} {base : Nat} {held : Bool}
theorem openOps13 {fuel : Nat} {cs : List Value} {x : DataW H × List MemPlace} (h : DataW.trod enc Tryz.prog W base (fun _ => true) held fuel 61 cs = some x) :
    ∃ (v : Value) (os : List Plays13.Op), cs = [v] ∧ Sl (baseOf W) 5 v os.length (Plays13.opsC os) ∧ (os.map Plays13.Op.wt).sum ≤ 64 * Rows.uptoBulk x.1 ∧ os.length ≤ Rows.uptoBulk x.1 ∧ ∀ o ∈ os, Plays13.Op.ok (baseOf W) o := by
  refine openList (cells := Plays13.Op.cells) (wt := Plays13.Op.wt) (Pd := Plays13.Op.ok (baseOf W)) Tryz.underlying61 gc63 (by decide) h fun n c d p hd => ?_
  obtain ⟨xs, m, _, hx, hl, hlen, hf⟩ := DataW.trod_struct Tryz.underlying63 hd
  match xs, hlen with
  | [y0, y1, y2, y3], _ =>
    have t0 : DataW.trod enc Tryz.prog W base (fun _ => true) held m 3 ((c.drop 0).take (Tryz.prog.cellsOf 3)) = some y0 := hf 0 _ rfl
    have t1 : DataW.trod enc Tryz.prog W base (fun _ => true) held m 39 ((c.drop 1).take (Tryz.prog.cellsOf 39)) = some y1 := hf 1 _ rfl
    have t2 : DataW.trod enc Tryz.prog W base (fun _ => true) held m 9 ((c.drop 2).take (Tryz.prog.cellsOf 9)) = some y2 := hf 2 _ rfl
    have t3 : DataW.trod enc Tryz.prog W base (fun _ => true) held m 42 ((c.drop 3).take (Tryz.prog.cellsOf 42)) = some y3 := hf 3 _ rfl
    rw [gc3] at t0
    rw [gc39] at t1
    rw [gc9] at t2
    rw [gc42] at t3
    obtain ⟨z, q0, e0, _⟩ := openInt Tryz.underlying3 t0
    obtain ⟨cv, cl, q1, hs1, hb1⟩ := openChs t1
    obtain ⟨s, q2, e2⟩ := openStr Tryz.underlying9 t2
    obtain ⟨kv, keep, tear, q3, hs3, hb3, _⟩ := openFate t3
    rw [gc63] at hl
    obtain ⟨c0, c1, c2, c3, c4, rfl⟩ := len5 hl
    simp at q0 q1 q2 q3
    obtain ⟨rfl, rfl⟩ := q3
    subst q0 q1 q2
    refine ⟨⟨z, c1, cl, s, c3, keep, tear⟩, rfl, ?_, hs1, hs3⟩
    simp only [Prod.mk.injEq] at hx
    rw [hx.1]
    simp only [List.map_cons, List.map_nil, e0, e2, Rows.uptoBulk, Rows.uptoBulkAll, Plays13.Op.wt]
    omega
end
set_option maxRecDepth 100000 in
theorem contract13b (H : Type) (enc : TypeId × Value → H) (W : World) (base : Nat) (args : Array Value) (ds gs : List (DataW H)) (before : List MemPlace)
    (hval : ∀ (j : Nat) t v, Tryz.f5.params[j]? = some t → args[j]? = some v → Value.okWide Tryz.prog W .any base t v)
    (hW : DataW.Whole enc Tryz.prog Tryz.f5.params.toList Rows.catalogPlaysSpec.vars false W args.toList ds gs before) (hk : Rows.uptoSmall H (ds ++ gs) = true) (hL : laidMetH Tryz.prog Rows.bodiesFullRow.laid W) :
    Calls Tryz.prog 5 args W fun e W' => ∃ v, e = .returned v ∧ Rows.catalogPlaysSpec.post enc Tryz.prog Tryz.f5 false true false false W args v W' := by
  have hW' := hW
  obtain ⟨p, q, hA0, hV, rfl, hfz, hnd⟩ := hW
  have hA : DataW.TrodAll enc Tryz.prog W 0 (fun _ => true) true Tryz.f5.params.toList args.toList ds p := hA0
  rw [Tryz.params5] at hA hval
  obtain ⟨v0, d0, rfl, rfl, h0⟩ := trodAll_one hA
  obtain ⟨rfl, rfl⟩ := trodVars_none hV
  obtain ⟨a0, l0, c0, rfl⟩ := okWide_slice Tryz.underlying61 (hval 0 61 v0 rfl rfl)
  have h0k := h0
  obtain ⟨fuel0, f0⟩ := h0
  clear hA0
  simp only [List.append_nil] at hW'
  have hlt0 : ∀ x ∈ p, x.block < W.heap.size := fun x hx => hW'.lt x (by simp [hx])
  obtain ⟨hG, hE⟩ := glob_of hL
  have hk' := of_decide_eq_true hk
  simp only [Rows.uptoBulkAll, List.append_nil] at hk'
  obtain ⟨w0, os, e0, hs0, hb0, hb1, hok⟩ := openOps13 f0
  simp [Value.cells] at e0
  subst e0
  dsimp only at hb0 hb1
  refine (Plays13.plays (e := ctxOf W) hG hE (by omega) (by omega) hok hs0 (owns0 W)).mono fun e W' hr => ?_
  match e, hr with
  | .returned u, ⟨Bs, hu, ho⟩ =>
    subst hu
    have hb : Below W.heap.size W W' := ho.below0
    refine ⟨_, rfl, ⟨_, _, _, [], p, [], hW', ?_, ?_, ?_, hb.frame _, fun h => by cases h⟩⟩
    · exact trodAll_mk1 (shut_bool Tryz.underlying4 _)
    · exact trodAll_mk1 (Below.trod WB.laidOut (by kernel_rfl) (of_decide_eq_true (by kernel_rfl)) h0k hb hlt0)
    · rfl
end Go.Proofs.YteejmoldhbfdnaaGreatDoor
