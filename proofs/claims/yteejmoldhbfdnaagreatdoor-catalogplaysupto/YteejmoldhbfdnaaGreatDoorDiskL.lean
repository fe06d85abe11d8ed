/- Plain laws on disks. -/
import Derived.Test.YteejmoldhbfdnaaGreatDoorDisk2
namespace Go.Proofs.YteejmoldhbfdnaaGreatDoor.Disk
open Go.W
section
variable {D : DK} {nm b x : Str}
theorem append_room : (D.append nm b).room = D.room := by unfold DK.append; split <;> rfl
theorem append_used : (D.append nm b).used = D.used + b.length := by
  unfold DK.append DK.used
  cases hq : lkp nm D.files with
  | none => simpa using usedF_new hq
  | some y =>
    obtain ⟨d, s⟩ := y
    have := usedF_ins (d' := d ++ b) (s' := s) hq
    simp at this ⊢; omega
theorem append_pend : (D.append nm b).pend.length = D.pend.length + 1 := by unfold DK.append; split <;> simp
theorem append_self {d s : Str} (h : lkp nm D.files = some (d, s)) : lkp nm (D.append nm b).files = some (d ++ b, s) := by
  simp [DK.append, h, lkp_ins]
theorem append_self_new (h : lkp nm D.files = none) : lkp nm (D.append nm b).files = some (b, []) := by
  simp [DK.append, h, lkp_ins]
theorem append_other (h : nm ≠ x) : lkp x (D.append nm b).files = lkp x D.files := by
  unfold DK.append; split <;> simp [lkp_ins, h]
theorem append_some (h : (lkp x D.files).isSome = true) : (lkp x (D.append nm b).files).isSome = true := by
  by_cases hx : nm = x
  · subst hx
    obtain ⟨⟨d, s⟩, hy⟩ := Option.isSome_iff_exists.1 h
    rw [append_self hy]; rfl
  · rw [append_other hx]; exact h
/-- What waits belongs to a file. -/
def PendOK (D : DK) : Prop := ∀ x ∈ D.pend, (lkp x.1 D.files).isSome = true
theorem append_ok (h : PendOK D) : PendOK (D.append nm b) := by
  intro y hy
  have hself : (lkp nm (D.append nm b).files).isSome = true := by
    cases hq : lkp nm D.files with
    | none => rw [append_self_new hq]; rfl
    | some z => obtain ⟨d, s⟩ := z; rw [append_self hq]; rfl
  have hp : y ∈ D.pend ∨ y.1 = nm := by
    unfold DK.append at hy
    split at hy <;> simp at hy <;> rcases hy with hy | hy <;> first | exact .inl hy | exact .inr (by rw [hy])
  rcases hp with hp | hp
  · exact append_some (h y hp)
  · rw [hp]; exact hself
theorem syncF_lkp : ∀ (ws : List (Str × Nat × Str)) (fs : List (Str × (Str × Str))), lkp x (syncF ws fs) = (lkp x fs).map fun f => if x ∈ ws.map Prod.fst then (f.1, f.1) else f
  | [], fs => by simp [syncF]
  | (nm, at_, b) :: ws, fs => by
    simp only [syncF, List.map_cons, List.mem_cons]
    rw [syncF_lkp ws]
    cases hq : lkp nm fs with
    | none =>
      by_cases hx : x = nm
      · subst hx; simp [hq]
      · by_cases hm : x ∈ ws.map Prod.fst <;> simp only [hx, hm, or_true, or_false, if_true, if_false]
    | some y =>
      obtain ⟨d, s⟩ := y
      dsimp only
      rw [lkp_ins]
      by_cases hx : nm = x
      · subst hx; simp [hq]
      · have hx' : ¬ x = nm := fun q => hx q.symm
        rw [if_neg hx]
        by_cases hm : x ∈ ws.map Prod.fst <;> simp only [hx', hm, or_true, or_false, if_true, if_false]
theorem sync_some : (lkp x D.sync.files).isSome = (lkp x D.files).isSome := by
  unfold DK.sync; dsimp only; rw [syncF_lkp]; simp
theorem sync_get {d s : Str} (h : lkp x D.files = some (d, s)) : lkp x D.sync.files = some (d, if x ∈ D.pend.map Prod.fst then d else s) := by
  unfold DK.sync; dsimp only; rw [syncF_lkp, h]; simp only [Option.map_some]; split <;> rfl
theorem sync_pend : D.sync.pend = [] := rfl
theorem sync_room : D.sync.room = D.room := rfl
theorem sync_ok : PendOK D.sync := by intro y hy; cases hy
/-- Each file's data begin with what is safe; the rest waits. -/
theorem usedF_sync : ∀ (ws : List (Str × Nat × Str)) (fs : List (Str × (Str × Str))), usedF (syncF ws fs) = usedF fs
  | [], fs => rfl
  | (nm, at_, b) :: ws, fs => by
    simp only [syncF]
    rw [usedF_sync ws]
    cases hq : lkp nm fs with
    | none => rfl
    | some y =>
      obtain ⟨d, s⟩ := y
      have := usedF_ins (d' := d) (s' := d) hq
      dsimp only at this ⊢; omega
theorem sync_used : D.sync.used = D.used := usedF_sync _ _
theorem append_len : (D.append nm b).files.length ≤ D.files.length + 1 := by
  unfold DK.append
  have key : ∀ (v : Str × Str) (fs : List (Str × (Str × Str))), (ins nm v fs).length ≤ fs.length + 1 := by
    intro v fs
    induction fs with
    | nil => simp [ins]
    | cons y fs ih =>
      obtain ⟨k, u⟩ := y
      simp only [ins]
      split <;> simp <;> omega
  split <;> exact key _ _
theorem syncF_keys : ∀ (ws : List (Str × Nat × Str)) (fs : List (Str × (Str × Str))), (syncF ws fs).map Prod.fst = fs.map Prod.fst
  | [], fs => rfl
  | (nm, at_, b) :: ws, fs => by
    simp only [syncF]
    rw [syncF_keys ws]
    cases hq : lkp nm fs with
    | none => rfl
    | some y => exact keys_ins_old hq
theorem sync_len : D.sync.files.length = D.files.length := by
  have := congrArg List.length (syncF_keys D.pend D.files)
  simpa [DK.sync] using this
end
end Go.Proofs.YteejmoldhbfdnaaGreatDoor.Disk
