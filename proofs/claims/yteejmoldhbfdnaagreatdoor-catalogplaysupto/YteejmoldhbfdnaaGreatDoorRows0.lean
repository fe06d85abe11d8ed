/- Arguments read in the base heap: rows of octets. -/
import Derived.Test.YteejmoldhbfdnaaGreatDoorStart
import Derived.OpenShut
namespace Go.W
open Go.RowKit Go.Proofs.YteejmoldhbfdnaaGreatDoor.Seal
theorem BL.range {A : Hp} {f : Nat → Value} {g : Nat → Str} : ∀ {n : Nat}, (∀ r, r < n → Sl A 1 (f r) (g r).length (bcells (g r))) → BL A ((List.range n).map f) ((List.range n).map g)
  | 0, _ => .nil
  | n + 1, h => by
    rw [List.range_succ, List.map_append, List.map_append]
    exact (BL.range fun r hr => h r (by omega)).snoc (h n (by omega))
def octs (zs : List Int) : Str := zs.map fun z => UInt8.ofNat z.toNat
theorem octs_cells {zs : List Int} (h : ∀ z ∈ zs, (Lit.int .u8 z).wf = true) : bcells (octs zs) = zs.map fun z => .int .u8 z := by
  unfold bcells octs
  rw [List.map_map]
  apply List.map_congr_left
  intro z hz
  have := bounds_u8 (h z hz)
  simp only [Function.comp, UInt8.toNat_ofNat', Value.int.injEq, true_and]
  omega
theorem rows_base {W : World} {base : Nat} {a : Addr} {len cap : Nat} {A : Nat → Option Addr} {L C : Nat → Nat} {Z : Nat → List Int} (hl : len ≤ cap)
    (hrows : ∀ r, r < cap → W.cell? (a.add r) = some (.slice (A r) (L r) (C r)) ∧ L r ≤ C r ∧ C r ≤ maxLen ∧ (Z r).length = C r ∧ (∀ n ∈ Z r, (Lit.int .u8 n).wf = true) ∧ (A r = none → C r = 0) ∧
        ∀ a', A r = some a' → base ≤ a'.block ∧ ∀ c, c < C r → W.cell? (a'.add c) = some (.int .u8 ((Z r).getD c 0))) :
    ∃ vs bs, Sl (baseOf W) 1 (.slice (some a) len cap) len vs ∧ BL (baseOf W) vs bs ∧ bs = (List.range len).map fun r => octs ((Z r).take (L r)) := by
  refine ⟨(List.range len).map fun r => .slice (A r) (L r) (C r), _, ?_, ?_, rfl⟩
  · refine sl_base hl (by simp) fun i v hi => ?_
    rw [List.getElem?_map] at hi
    obtain ⟨r, hr, rfl⟩ := Option.map_eq_some_iff.1 hi
    obtain ⟨hr1, hr2⟩ := List.getElem?_eq_some_iff.1 hr
    simp only [List.length_range] at hr1
    simp only [List.getElem_range] at hr2
    subst hr2
    exact (hrows i (by omega)).1
  · refine BL.range fun r hr => ?_
    obtain ⟨_, h1, _, h3, h4, h5, h6⟩ := hrows r (by omega)
    have hlen : (octs ((Z r).take (L r))).length = L r := by simp [octs]; omega
    rw [hlen, octs_cells fun z hz => h4 z (List.mem_of_mem_take hz)]
    cases ha : A r with
    | none =>
      have h0 := h5 ha
      have hL : L r = 0 := by omega
      rw [hL, h0]
      exact ⟨by simp, .inl ⟨⟨_, _, rfl⟩, rfl⟩⟩
    | some a' =>
      refine sl_base h1 (by simp; omega) fun i v hi => ?_
      rw [List.getElem?_map] at hi
      obtain ⟨z, hz, rfl⟩ := Option.map_eq_some_iff.1 hi
      rw [List.getElem?_take] at hz
      split at hz
      · rename_i hiL
        have := (h6 a' ha).2 i (by omega)
        rw [this]
        simp [List.getD, hz]
      · cases hz
end Go.W
