/- What holds of a store on a disk of any room, from Put to Put: plain laws. -/
import Derived.Test.YteejmoldhbfdnaaGreatDoorTells14
namespace Go.Proofs.YteejmoldhbfdnaaGreatDoor.BInv
open Go.W Go.RowKit Seal Disk Wal Num Bod Bod3 Bod4 Tells14
theorem cut46 : ∀ {a b x y : Str}, (∀ c ∈ a, c ≠ 46) → (∀ c ∈ b, c ≠ 46) → a ++ 46 :: x = b ++ 46 :: y → a = b
  | [], [], _, _, _, _, _ => rfl
  | [], d :: b, _, _, _, hb, h => by simp at h; exact absurd h.1.symm (hb d (.head _))
  | c :: a, [], _, _, ha, _, h => by simp at h; exact absurd h.1 (ha c (.head _))
  | c :: a, d :: b, x, y, ha, hb, h => by
    simp only [List.cons_append, List.cons.injEq] at h
    rw [h.1, cut46 (fun z hz => ha z (.tail _ hz)) (fun z hz => hb z (.tail _ hz)) h.2]
theorem seg_no46 (n : Nat) : ∀ c ∈ segBase n, c ≠ 46 := by
  intro c hc
  unfold segBase at hc
  rcases List.mem_append.1 hc with hc | hc
  · simp at hc; subst hc; decide
  · rw [itoa_nat] at hc
    have := dec_digits n c hc
    intro q; subst q; simp at this
theorem segFile_inj {a b g h : Nat} (q : fileF (segBase a) g = fileF (segBase b) h) : a = b ∧ g = h := by
  unfold fileF at q
  simp only [List.append_assoc, List.singleton_append] at q
  have h1 := cut46 (seg_no46 a) (seg_no46 b) q
  rw [h1] at q
  have h2 := List.append_cancel_left q
  simp at h2
  refine ⟨?_, itoa_inj h2⟩
  unfold segBase at h1
  exact itoa_inj (List.append_cancel_left h1)
theorem segFile_len {n g : Nat} (hn : n < 10 ^ 18) (hg : g ≤ 999999999) : (fileF (segBase n) g).length ≤ 1000 := by
  have := (good_file (n := g) (okBase_seg hn) hg).2.1
  omega
structure BI (r : Int) (U K c : Nat) (S : SK) (D : DK) (qs : List RB) : Prop where
  room : D.room = r
  us : D.used ≤ U
  full : D.used = 0 ∨ (D.used : Int) ≤ r
  pn : D.pend.length ≤ K
  po : PendOK D
  fl : D.files.length ≤ K
  fn : ∀ x, (lkp x D.files).isSome = true → ∃ k, k ≤ c ∧ x = fileF (segBase k) 1
  cur : S.current = (c : Int)
  cK : c ≤ K
  sk : ∀ n, (lkp n S.segs).isSome = true → n ≤ (c : Int)
  sg : ∀ n g, lkp n S.segs = some g → (∃ k, k ≤ c ∧ g.base = segBase k) ∧ g.gen = 1 ∧ g.size ≤ U ∧ g.ids.length ≤ K
  l0 : 0 ≤ S.last
  lK : S.last ≤ (K : Int)
  ids : S.bodies.map Prod.fst = qs.map (·.id)
  asc : (qs.map (·.id)).Pairwise (· < ·)
  rng : ∀ x ∈ qs, 1 ≤ x.id ∧ x.id ≤ S.last
  get : ∀ x ∈ qs, ∃ seg, lkp x.id S.bodies = some (x.data, x.held, seg)
variable {r : Int} {U K c : Nat} {S : SK} {D : DK} {qs : List RB}
theorem BI.fresh (h : BI r U K c S D qs) : lkp (S.last + 1) S.bodies = none := by
  rw [lkp_none, h.ids]
  intro hm
  obtain ⟨x, hx, e⟩ := List.mem_map.1 hm
  have := h.rng x hx
  omega
theorem BI.zero (h : BI r U K c S D qs) : lkp 0 S.bodies = none := by
  rw [lkp_none, h.ids]
  intro hm
  obtain ⟨x, hx, e⟩ := List.mem_map.1 hm
  have := h.rng x hx
  omega
theorem BI.dok (h : BI r U K c S D qs) (hr : r ≤ 9223372036854775807 ∧ -9223372036854775808 ≤ r) (hU : U ≤ 800000000) (hK : K < 90000000) : DOK D := by
  refine ⟨fun x hx => ?_, by have := h.fl; omega, by have := h.us; omega, by have := h.pn; omega, h.po, by rw [h.room]; exact hr⟩
  obtain ⟨k, hk, rfl⟩ := h.fn x hx
  have := h.cK
  exact segFile_len (by omega) (by omega)
theorem BI.sok (h : BI r U K c S D qs) (hU : U ≤ 800000000) (hK : K < 90000000) : SOK S c D := by
  have h1 := h.cK
  have h2 := h.lK
  refine ⟨h.cur, by omega, ?_, fun g' => ?_, fun n g hg => ?_, h.fresh, ⟨h.l0, by omega⟩⟩
  · cases hq : lkp ((c + 1 : Nat) : Int) S.segs with
    | none => rfl
    | some g => have := h.sk _ (by rw [hq]; rfl); omega
  · cases hq : lkp (fileF (segBase (c + 1)) g') D.files with
    | none => rfl
    | some g =>
      obtain ⟨k, hk, e⟩ := h.fn _ (by rw [hq]; rfl)
      have := (segFile_inj e).1
      omega
  · obtain ⟨⟨k, hk, e⟩, h4, h5, h6⟩ := h.sg n g hg
    exact ⟨by rw [e]; exact okBase_seg (by omega), by omega, by omega, by omega⟩
theorem BI.mono (h : BI r U K c S D qs) {U' K' : Nat} (hU : U ≤ U') (hK : K ≤ K') : BI r U' K' c S D qs :=
  ⟨h.room, Nat.le_trans h.us hU, h.full, Nat.le_trans h.pn hK, h.po, Nat.le_trans h.fl hK, h.fn, h.cur, Nat.le_trans h.cK hK, h.sk,
    fun n g hg => by obtain ⟨a, b, d, f⟩ := h.sg n g hg; exact ⟨a, b, Nat.le_trans d hU, Nat.le_trans f hK⟩, h.l0, (by have := h.lK; omega), h.ids, h.asc, h.rng, h.get⟩
theorem BI.roomS (h : BI r U K c S D qs) (hf : (D.used : Int) + 8 ≤ D.room) : BI r (U + 8) (K + 1) (c + 1) (S.newSeg c) (newD D c) qs := by
  have hw8 : (wrapped []).length = 8 := by rw [wrapped_length]; rfl
  have hused : (newD D c).used = D.used + 8 := by unfold newD; rw [sync_used, append_used, hw8]
  have hus := h.us
  have hcK := h.cK
  have hlK := h.lK
  have hr := h.room
  refine ⟨by simp [newD, sync_room, append_room, h.room], by omega, .inr (by rw [hused]; push_cast; omega), by simp [newD, sync_pend], sync_ok, ?_, fun x hx => ?_, rfl, by omega, fun n hn => ?_, fun n g hg => ?_, h.l0, ?_, h.ids, h.asc, h.rng, h.get⟩
  · unfold newD; rw [sync_len]; have := append_len (D := D) (nm := fileF (segBase (c + 1)) 1) (b := wrapped []); have := h.fl; omega
  · unfold newD at hx
    rw [sync_some] at hx
    by_cases hx2 : fileF (segBase (c + 1)) 1 = x
    · exact ⟨c + 1, Nat.le_refl _, hx2.symm⟩
    · rw [append_other hx2] at hx
      obtain ⟨k, hk, e⟩ := h.fn x hx
      exact ⟨k, by omega, e⟩
  · simp only [SK.newSeg] at hn
    rw [lkp_ins] at hn
    split at hn
    · omega
    · have := h.sk n hn; omega
  · simp only [SK.newSeg] at hg
    rw [lkp_ins] at hg
    split at hg
    · cases hg; exact ⟨⟨c + 1, Nat.le_refl _, rfl⟩, rfl, by dsimp only; omega, by simp⟩
    · obtain ⟨⟨k, hk, e⟩, b, d, f⟩ := h.sg n g hg
      exact ⟨⟨k, by omega, e⟩, b, by omega, by omega⟩
  · show S.last ≤ _; omega
theorem lkp_snoc {V : Type} {k k' : Int} {v : V} {m : List (Int × V)} (_hne : lkp k m = none) : lkp k' (ins k v m) = if k = k' then some v else lkp k' m := lkp_ins k v m k'
theorem ins_keys {V : Type} {k : Int} {v : V} {m : List (Int × V)} (h : lkp k m = none) : (ins k v m).map Prod.fst = m.map Prod.fst ++ [k] := by rw [keys_ins_new h]; simp
/-- A body more. -/
theorem BI.bodyS (h : BI r U K c S D qs) {x : RB} (hid : x.id = S.last + 1) (hh : x.held = 1) {seg : Int} {S' : SK} (hb : S'.bodies = ins (S.last + 1) (x.data, 1, seg) S.bodies) (hl : S'.last = S.last + 1) (hc : S'.current = S.current)
    (hsk : ∀ n, (lkp n S'.segs).isSome = true → (lkp n S.segs).isSome = true) (hsg : ∀ n g, lkp n S'.segs = some g → (∃ k, k ≤ c ∧ g.base = segBase k) ∧ g.gen = 1 ∧ g.size ≤ U ∧ g.ids.length ≤ K + 1) : BI r U (K + 1) c S' D (qs ++ [x]) := by
  have hf := h.fresh
  have h0 := h.l0
  have hK := h.lK
  have hpn := h.pn
  have hfl := h.fl
  have hcK := h.cK
  refine ⟨h.room, h.us, h.full, by omega, h.po, by omega, h.fn, by rw [hc]; exact h.cur, by omega, fun n hn => h.sk n (hsk n hn), hsg, by omega, by omega, ?_, ?_, ?_, ?_⟩
  · rw [hb, ins_keys hf, h.ids]; simp [hid]
  · rw [List.map_append]
    refine List.pairwise_append.2 ⟨h.asc, by simp, ?_⟩
    intro a ha b hb'
    simp at hb'
    obtain ⟨y, hy, rfl⟩ := List.mem_map.1 ha
    have := h.rng y hy
    omega
  · intro y hy
    rcases List.mem_append.1 hy with hy | hy
    · have := h.rng y hy; omega
    · simp at hy; subst hy; omega
  · intro y hy
    rw [hb]
    rcases List.mem_append.1 hy with hy | hy
    · obtain ⟨sg, hsg⟩ := h.get y hy
      have := h.rng y hy
      refine ⟨sg, ?_⟩
      rw [lkp_ins, if_neg (by omega)]; exact hsg
    · simp at hy; subst hy
      exact ⟨seg, by rw [lkp_ins, if_pos hid.symm, hh]⟩
/-- A record more in the segment that is written to. -/
theorem BI.putS (h : BI r U K c S D qs) {g : SegK} (hg : lkp S.current S.segs = some g) {data : Str} {dv : Value} {du : Bool} {L : Nat} (hL : (wrapped (rec1 (S.last + 1) data)).length = L) (hf : (D.used : Int) + L ≤ D.room) :
    BI r (U + L) (K + 1) c (S.put data g) (D.append (fileF g.base g.gen) (wrapped (rec1 (S.last + 1) data))) (qs ++ [⟨dv, S.last + 1, 1, data, du⟩]) := by
  obtain ⟨⟨k0, hk0, e0⟩, g1, g2, g3⟩ := h.sg _ _ hg
  have hr := h.room
  have h1 : BI r (U + L) (K + 1) c S (D.append (fileF g.base g.gen) (wrapped (rec1 (S.last + 1) data))) qs := by
    have hm := h.mono (U' := U + L) (K' := K + 1) (by omega) (by omega)
    have hus := h.us
    have hpn := h.pn
    have hfl := h.fl
    have := append_len (D := D) (nm := fileF g.base g.gen) (b := wrapped (rec1 (S.last + 1) data))
    refine ⟨by rw [append_room]; exact h.room, by rw [append_used, hL]; omega, .inr (by rw [append_used, hL]; push_cast; omega), by rw [append_pend]; omega, append_ok h.po, by omega, fun x hx => ?_, hm.cur, hm.cK, hm.sk, hm.sg, hm.l0, hm.lK, hm.ids, hm.asc, hm.rng, hm.get⟩
    by_cases hx2 : fileF g.base g.gen = x
    · exact ⟨k0, hk0, by rw [← hx2, e0, g1]⟩
    · rw [append_other hx2] at hx; exact h.fn x hx
  have hb := BI.bodyS (h1) (x := ⟨dv, S.last + 1, 1, data, du⟩) rfl rfl (seg := S.current) (S' := S.put data g) rfl rfl rfl ?_ ?_
  · refine ⟨hb.room, hb.us, hb.full, ?_, hb.po, ?_, hb.fn, hb.cur, ?_, hb.sk, fun n g' hg' => ?_, hb.l0, ?_, hb.ids, hb.asc, hb.rng, hb.get⟩
    · have := h.pn; rw [append_pend]; omega
    · have := append_len (D := D) (nm := fileF g.base g.gen) (b := wrapped (rec1 (S.last + 1) data)); have := h.fl; omega
    · have := h.cK; omega
    · simp only [SK.put] at hg'
      rw [lkp_ins] at hg'
      split at hg'
      · cases hg'; exact ⟨⟨k0, hk0, e0⟩, g1, by dsimp only; omega, by simp; omega⟩
      · obtain ⟨a, b, d, f⟩ := h.sg n g' hg'; exact ⟨a, b, by omega, by omega⟩
    · have := h.lK; show S.last + 1 ≤ _; omega
  · intro n hn
    simp only [SK.put] at hn
    rw [lkp_ins] at hn
    split at hn
    · rename_i q; subst q; rw [hg]; rfl
    · exact hn
  · intro n g' hg'
    simp only [SK.put] at hg'
    rw [lkp_ins] at hg'
    split at hg'
    · cases hg'; exact ⟨⟨k0, hk0, e0⟩, g1, by dsimp only; omega, by simp; omega⟩
    · obtain ⟨a, b, d, f⟩ := h.sg n g' hg'; exact ⟨a, b, by omega, by omega⟩
theorem BI.start {r : Int} : BI r 0 0 0 ⟨[], [], 0, 0⟩ ⟨[], [], r⟩ [] :=
  ⟨rfl, by simp [DK.used, usedF], .inl rfl, Nat.le_refl _, (fun x h => by cases h), Nat.le_refl _, (fun x h => by simp [lkp] at h), rfl, Nat.le_refl _, (fun n h => by simp [lkp] at h), (fun n g h => by cases h), Int.le_refl _, Int.le_refl _, rfl, .nil, (fun x h => by cases h), (fun x h => by cases h)⟩
end Go.Proofs.YteejmoldhbfdnaaGreatDoor.BInv
