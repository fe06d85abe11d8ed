/- slices.Sorted(maps.Keys(m)) over owned heaps. Printed by keys2.py. -/
import Derived.Test.YteejmoldhbfdnaaGreatDoorKeys0
namespace Go.Proofs.YteejmoldhbfdnaaGreatDoor.Keys
open Go.W Go.RowKit Go.Shelf Go.MapKept
theorem sorts80 (m : Nat) : AnyZ.SortsIn Tryz.prog Tryz.sorted80_ren Fence.wide m :=
  ⟨fun blk off cap ss W hH hblk hsz => callsIn_wide.2 (AnyM.slices_Sort_string Tryz.sort156 blk off cap ss W hH hblk hsz),
   fun p cap W => callsIn_wide.2 (AnyM.slices_Sort_string_none Tryz.sort156 p cap W)⟩
theorem sorts86 (m : Nat) : AnyZI.SortsIn Tryz.prog Tryz.sorted86_ren Fence.wide m :=
  ⟨fun blk off cap ss W hH hblk hsz => callsIn_wide.2 (AnyM.slices_Sort_int Tryz.sort160 blk off cap ss W hH hblk hsz),
   fun p cap W => callsIn_wide.2 (AnyM.slices_Sort_int_none Tryz.sort160 p cap W)⟩
section
variable {e : Ctx} {w : World} {As : List Hp} {A Q : Hp} {b q : Nat} {ob : Obj}
theorem keys81 (hw : Owns e w As) (_hA : Has e As A) : Calls Tryz.prog 81 #[.map (some b)] w (Ret e fun u Bs => ∃ q, u = .func (.func 157) #[] #[.pointer (some ⟨q, 0, none⟩)] ∧ Bs = [(q, .cells #[.map (some b)] 149)] :: As) := by
  refine Calls.mono (callsIn_wide.1 (AnyZ.keys_in Tryz.keys81 Fence.wide 5 trivial rfl (some b) w)) ?_
  rintro en w' ⟨rfl, rfl⟩
  exact ⟨_, ⟨_, rfl, rfl⟩, hw.alloc _⟩
theorem sorted81 {kvs : List (Str × Value)} (hw : Owns e w As) (hQ : Has e As Q) (hq : (q, .cells #[.map (some b)] 149) ∈ Q) (hA : Has e As A) (hb : (b, ob) ∈ A) (hM : MapO kvs ob) (hn : kvs.length ≤ 1000000000) (hl : ∀ x ∈ kvs, x.1.length ≤ 1000000000) :
    Calls Tryz.prog 80 #[.func (.func 157) #[] #[.pointer (some ⟨q, 0, none⟩)]] w (Ret e fun u Bs => ∃ ns A', Row 9 1 u ns.length (ns.map S) A' ∧ ns = (kvs.map Prod.fst).mergeSort (fun x y => decide (x ≤ y)) ∧ Bs = A' :: As) := by
  have hb' := hw.has hA hb
  have hq' := hw.has hQ hq
  obtain ⟨D0, hown, hperm, hsize⟩ := owns_str Tryz.underlying9 hb' hM (by simp only [maxLen]; omega) (fun x hx => by have := hl x hx; simp only [maxLen]; omega)
  have hlt : q < w.heap.size := (Array.getElem?_eq_some_iff.1 hq').1
  have hseq : SeqGives Fence.wide 2 Tryz.prog 157 #[.pointer (some ⟨q, 0, none⟩)] encStr (fun ss => ss.Perm (strKeys D0)) (Maps.size D0) w :=
    AnyZ.keys_gives (ρ := Tryz.keys81_ren) { Tryz.keys81 with } Fence.wide _ trivial rfl (by omega) q b _ D0 _ hlt (by simp [World.cell?, hq']) hown
  refine ret_str hw (Calls.mono (callsIn_wide.1 (AnyZ.sorted_in Tryz.sorted80 Fence.wide 5 trivial trivial trivial trivial rfl (by omega) (sorts80 _) (enters_of Tryz.func156 (by kernel_rfl) rfl) 157 #[.pointer (some ⟨q, 0, none⟩)] trivial (enters_of Tryz.func157 (by kernel_rfl) rfl) _ _ (by rw [hsize]; simp only [maxLen]; omega) (by rw [hsize]; omega) _ hseq)) ?_)
  rintro en w' ⟨v, ss, rfl, hp, hr, hnil, hB⟩
  exact ⟨v, ss, rfl, hp.trans hperm, hr, hnil, hB⟩
theorem keys87 (hw : Owns e w As) (_hA : Has e As A) : Calls Tryz.prog 87 #[.map (some b)] w (Ret e fun u Bs => ∃ q, u = .func (.func 161) #[] #[.pointer (some ⟨q, 0, none⟩)] ∧ Bs = [(q, .cells #[.map (some b)] 127)] :: As) := by
  refine Calls.mono (callsIn_wide.1 (AnyZI.keys_in Tryz.keys87 Fence.wide 5 trivial rfl (some b) w)) ?_
  rintro en w' ⟨rfl, rfl⟩
  exact ⟨_, ⟨_, rfl, rfl⟩, hw.alloc _⟩
theorem sorted87 {kvs : List (Int × Value)} (hw : Owns e w As) (hQ : Has e As Q) (hq : (q, .cells #[.map (some b)] 127) ∈ Q) (hA : Has e As A) (hb : (b, ob) ∈ A) (hM : MapO kvs ob) (hn : kvs.length ≤ 1000000000) (hl : ∀ x ∈ kvs, -9223372036854775808 ≤ x.1 ∧ x.1 ≤ 9223372036854775807) :
    Calls Tryz.prog 86 #[.func (.func 161) #[] #[.pointer (some ⟨q, 0, none⟩)]] w (Ret e fun u Bs => ∃ ns A', Row 3 1 u ns.length (ns.map fun i => .int .i64 i) A' ∧ ns = (kvs.map Prod.fst).mergeSort (fun x y => decide (x ≤ y)) ∧ Bs = A' :: As) := by
  have hb' := hw.has hA hb
  have hq' := hw.has hQ hq
  obtain ⟨D0, hown, hperm, hsize⟩ := owns_int Tryz.underlying3 hb' hM (by simp only [maxLen]; omega) hl
  have hlt : q < w.heap.size := (Array.getElem?_eq_some_iff.1 hq').1
  have hseq : SeqGives Fence.wide 2 Tryz.prog 161 #[.pointer (some ⟨q, 0, none⟩)] encZ (fun ss => ss.Perm (intKeys D0)) (Maps.size D0) w :=
    AnyZI.keys_gives (ρ := Tryz.keys87_ren) { Tryz.keys87 with } Fence.wide _ trivial rfl (by omega) q b _ D0 _ hlt (by simp [World.cell?, hq']) hown
  refine ret_int hw (Calls.mono (callsIn_wide.1 (AnyZI.sorted_in Tryz.sorted86 Fence.wide 5 trivial trivial trivial trivial rfl (by omega) (sorts86 _) (enters_of Tryz.func160 (by kernel_rfl) rfl) 161 #[.pointer (some ⟨q, 0, none⟩)] trivial (enters_of Tryz.func161 (by kernel_rfl) rfl) _ _ (by rw [hsize]; simp only [maxLen]; omega) (by rw [hsize]; omega) _ hseq)) ?_)
  rintro en w' ⟨v, ss, rfl, hp, hr, hnil, hB⟩
  exact ⟨v, ss, rfl, hp.trans hperm, hr, hnil, hB⟩
theorem keys104 (hw : Owns e w As) (_hA : Has e As A) : Calls Tryz.prog 104 #[.map (some b)] w (Ret e fun u Bs => ∃ q, u = .func (.func 176) #[] #[.pointer (some ⟨q, 0, none⟩)] ∧ Bs = [(q, .cells #[.map (some b)] 191)] :: As) := by
  refine Calls.mono (callsIn_wide.1 (AnyZ.keys_in Tryz.keys104 Fence.wide 5 trivial rfl (some b) w)) ?_
  rintro en w' ⟨rfl, rfl⟩
  exact ⟨_, ⟨_, rfl, rfl⟩, hw.alloc _⟩
theorem sorted104 {kvs : List (Str × Value)} (hw : Owns e w As) (hQ : Has e As Q) (hq : (q, .cells #[.map (some b)] 191) ∈ Q) (hA : Has e As A) (hb : (b, ob) ∈ A) (hM : MapO kvs ob) (hn : kvs.length ≤ 1000000000) (hl : ∀ x ∈ kvs, x.1.length ≤ 1000000000) :
    Calls Tryz.prog 80 #[.func (.func 176) #[] #[.pointer (some ⟨q, 0, none⟩)]] w (Ret e fun u Bs => ∃ ns A', Row 9 1 u ns.length (ns.map S) A' ∧ ns = (kvs.map Prod.fst).mergeSort (fun x y => decide (x ≤ y)) ∧ Bs = A' :: As) := by
  have hb' := hw.has hA hb
  have hq' := hw.has hQ hq
  obtain ⟨D0, hown, hperm, hsize⟩ := owns_str Tryz.underlying9 hb' hM (by simp only [maxLen]; omega) (fun x hx => by have := hl x hx; simp only [maxLen]; omega)
  have hlt : q < w.heap.size := (Array.getElem?_eq_some_iff.1 hq').1
  have hseq : SeqGives Fence.wide 2 Tryz.prog 176 #[.pointer (some ⟨q, 0, none⟩)] encStr (fun ss => ss.Perm (strKeys D0)) (Maps.size D0) w :=
    AnyZ.keys_gives (ρ := Tryz.keys104_ren) { Tryz.keys104 with } Fence.wide _ trivial rfl (by omega) q b _ D0 _ hlt (by simp [World.cell?, hq']) hown
  refine ret_str hw (Calls.mono (callsIn_wide.1 (AnyZ.sorted_in Tryz.sorted80 Fence.wide 5 trivial trivial trivial trivial rfl (by omega) (sorts80 _) (enters_of Tryz.func156 (by kernel_rfl) rfl) 176 #[.pointer (some ⟨q, 0, none⟩)] trivial (enters_of Tryz.func176 (by kernel_rfl) rfl) _ _ (by rw [hsize]; simp only [maxLen]; omega) (by rw [hsize]; omega) _ hseq)) ?_)
  rintro en w' ⟨v, ss, rfl, hp, hr, hnil, hB⟩
  exact ⟨v, ss, rfl, hp.trans hperm, hr, hnil, hB⟩
theorem keys117 (hw : Owns e w As) (_hA : Has e As A) : Calls Tryz.prog 117 #[.map (some b)] w (Ret e fun u Bs => ∃ q, u = .func (.func 189) #[] #[.pointer (some ⟨q, 0, none⟩)] ∧ Bs = [(q, .cells #[.map (some b)] 190)] :: As) := by
  refine Calls.mono (callsIn_wide.1 (AnyZ.keys_in Tryz.keys117 Fence.wide 5 trivial rfl (some b) w)) ?_
  rintro en w' ⟨rfl, rfl⟩
  exact ⟨_, ⟨_, rfl, rfl⟩, hw.alloc _⟩
theorem sorted117 {kvs : List (Str × Value)} (hw : Owns e w As) (hQ : Has e As Q) (hq : (q, .cells #[.map (some b)] 190) ∈ Q) (hA : Has e As A) (hb : (b, ob) ∈ A) (hM : MapO kvs ob) (hn : kvs.length ≤ 1000000000) (hl : ∀ x ∈ kvs, x.1.length ≤ 1000000000) :
    Calls Tryz.prog 80 #[.func (.func 189) #[] #[.pointer (some ⟨q, 0, none⟩)]] w (Ret e fun u Bs => ∃ ns A', Row 9 1 u ns.length (ns.map S) A' ∧ ns = (kvs.map Prod.fst).mergeSort (fun x y => decide (x ≤ y)) ∧ Bs = A' :: As) := by
  have hb' := hw.has hA hb
  have hq' := hw.has hQ hq
  obtain ⟨D0, hown, hperm, hsize⟩ := owns_str Tryz.underlying9 hb' hM (by simp only [maxLen]; omega) (fun x hx => by have := hl x hx; simp only [maxLen]; omega)
  have hlt : q < w.heap.size := (Array.getElem?_eq_some_iff.1 hq').1
  have hseq : SeqGives Fence.wide 2 Tryz.prog 189 #[.pointer (some ⟨q, 0, none⟩)] encStr (fun ss => ss.Perm (strKeys D0)) (Maps.size D0) w :=
    AnyZ.keys_gives (ρ := Tryz.keys117_ren) { Tryz.keys117 with } Fence.wide _ trivial rfl (by omega) q b _ D0 _ hlt (by simp [World.cell?, hq']) hown
  refine ret_str hw (Calls.mono (callsIn_wide.1 (AnyZ.sorted_in Tryz.sorted80 Fence.wide 5 trivial trivial trivial trivial rfl (by omega) (sorts80 _) (enters_of Tryz.func156 (by kernel_rfl) rfl) 189 #[.pointer (some ⟨q, 0, none⟩)] trivial (enters_of Tryz.func189 (by kernel_rfl) rfl) _ _ (by rw [hsize]; simp only [maxLen]; omega) (by rw [hsize]; omega) _ hseq)) ?_)
  rintro en w' ⟨v, ss, rfl, hp, hr, hnil, hB⟩
  exact ⟨v, ss, rfl, hp.trans hperm, hr, hnil, hB⟩
theorem keys139 (hw : Owns e w As) (_hA : Has e As A) : Calls Tryz.prog 139 #[.map (some b)] w (Ret e fun u Bs => ∃ q, u = .func (.func 208) #[] #[.pointer (some ⟨q, 0, none⟩)] ∧ Bs = [(q, .cells #[.map (some b)] 126)] :: As) := by
  refine Calls.mono (callsIn_wide.1 (AnyZI.keys_in Tryz.keys139 Fence.wide 5 trivial rfl (some b) w)) ?_
  rintro en w' ⟨rfl, rfl⟩
  exact ⟨_, ⟨_, rfl, rfl⟩, hw.alloc _⟩
theorem sorted139 {kvs : List (Int × Value)} (hw : Owns e w As) (hQ : Has e As Q) (hq : (q, .cells #[.map (some b)] 126) ∈ Q) (hA : Has e As A) (hb : (b, ob) ∈ A) (hM : MapO kvs ob) (hn : kvs.length ≤ 1000000000) (hl : ∀ x ∈ kvs, -9223372036854775808 ≤ x.1 ∧ x.1 ≤ 9223372036854775807) :
    Calls Tryz.prog 86 #[.func (.func 208) #[] #[.pointer (some ⟨q, 0, none⟩)]] w (Ret e fun u Bs => ∃ ns A', Row 3 1 u ns.length (ns.map fun i => .int .i64 i) A' ∧ ns = (kvs.map Prod.fst).mergeSort (fun x y => decide (x ≤ y)) ∧ Bs = A' :: As) := by
  have hb' := hw.has hA hb
  have hq' := hw.has hQ hq
  obtain ⟨D0, hown, hperm, hsize⟩ := owns_int Tryz.underlying3 hb' hM (by simp only [maxLen]; omega) hl
  have hlt : q < w.heap.size := (Array.getElem?_eq_some_iff.1 hq').1
  have hseq : SeqGives Fence.wide 2 Tryz.prog 208 #[.pointer (some ⟨q, 0, none⟩)] encZ (fun ss => ss.Perm (intKeys D0)) (Maps.size D0) w :=
    AnyZI.keys_gives (ρ := Tryz.keys139_ren) { Tryz.keys139 with } Fence.wide _ trivial rfl (by omega) q b _ D0 _ hlt (by simp [World.cell?, hq']) hown
  refine ret_int hw (Calls.mono (callsIn_wide.1 (AnyZI.sorted_in Tryz.sorted86 Fence.wide 5 trivial trivial trivial trivial rfl (by omega) (sorts86 _) (enters_of Tryz.func160 (by kernel_rfl) rfl) 208 #[.pointer (some ⟨q, 0, none⟩)] trivial (enters_of Tryz.func208 (by kernel_rfl) rfl) _ _ (by rw [hsize]; simp only [maxLen]; omega) (by rw [hsize]; omega) _ hseq)) ?_)
  rintro en w' ⟨v, ss, rfl, hp, hr, hnil, hB⟩
  exact ⟨v, ss, rfl, hp.trans hperm, hr, hnil, hB⟩
theorem keys142 (hw : Owns e w As) (_hA : Has e As A) : Calls Tryz.prog 142 #[.map (some b)] w (Ret e fun u Bs => ∃ q, u = .func (.func 209) #[] #[.pointer (some ⟨q, 0, none⟩)] ∧ Bs = [(q, .cells #[.map (some b)] 141)] :: As) := by
  refine Calls.mono (callsIn_wide.1 (AnyZ.keys_in Tryz.keys142 Fence.wide 5 trivial rfl (some b) w)) ?_
  rintro en w' ⟨rfl, rfl⟩
  exact ⟨_, ⟨_, rfl, rfl⟩, hw.alloc _⟩
theorem sorted142 {kvs : List (Str × Value)} (hw : Owns e w As) (hQ : Has e As Q) (hq : (q, .cells #[.map (some b)] 141) ∈ Q) (hA : Has e As A) (hb : (b, ob) ∈ A) (hM : MapO kvs ob) (hn : kvs.length ≤ 1000000000) (hl : ∀ x ∈ kvs, x.1.length ≤ 1000000000) :
    Calls Tryz.prog 80 #[.func (.func 209) #[] #[.pointer (some ⟨q, 0, none⟩)]] w (Ret e fun u Bs => ∃ ns A', Row 9 1 u ns.length (ns.map S) A' ∧ ns = (kvs.map Prod.fst).mergeSort (fun x y => decide (x ≤ y)) ∧ Bs = A' :: As) := by
  have hb' := hw.has hA hb
  have hq' := hw.has hQ hq
  obtain ⟨D0, hown, hperm, hsize⟩ := owns_str Tryz.underlying9 hb' hM (by simp only [maxLen]; omega) (fun x hx => by have := hl x hx; simp only [maxLen]; omega)
  have hlt : q < w.heap.size := (Array.getElem?_eq_some_iff.1 hq').1
  have hseq : SeqGives Fence.wide 2 Tryz.prog 209 #[.pointer (some ⟨q, 0, none⟩)] encStr (fun ss => ss.Perm (strKeys D0)) (Maps.size D0) w :=
    AnyZ.keys_gives (ρ := Tryz.keys142_ren) { Tryz.keys142 with } Fence.wide _ trivial rfl (by omega) q b _ D0 _ hlt (by simp [World.cell?, hq']) hown
  refine ret_str hw (Calls.mono (callsIn_wide.1 (AnyZ.sorted_in Tryz.sorted80 Fence.wide 5 trivial trivial trivial trivial rfl (by omega) (sorts80 _) (enters_of Tryz.func156 (by kernel_rfl) rfl) 209 #[.pointer (some ⟨q, 0, none⟩)] trivial (enters_of Tryz.func209 (by kernel_rfl) rfl) _ _ (by rw [hsize]; simp only [maxLen]; omega) (by rw [hsize]; omega) _ hseq)) ?_)
  rintro en w' ⟨v, ss, rfl, hp, hr, hnil, hB⟩
  exact ⟨v, ss, rfl, hp.trans hperm, hr, hnil, hB⟩
theorem keys277 (hw : Owns e w As) (_hA : Has e As A) : Calls Tryz.prog 277 #[.map (some b)] w (Ret e fun u Bs => ∃ q, u = .func (.func 319) #[] #[.pointer (some ⟨q, 0, none⟩)] ∧ Bs = [(q, .cells #[.map (some b)] 201)] :: As) := by
  refine Calls.mono (callsIn_wide.1 (AnyZ.keys_in Tryz.keys277 Fence.wide 5 trivial rfl (some b) w)) ?_
  rintro en w' ⟨rfl, rfl⟩
  exact ⟨_, ⟨_, rfl, rfl⟩, hw.alloc _⟩
theorem sorted277 {kvs : List (Str × Value)} (hw : Owns e w As) (hQ : Has e As Q) (hq : (q, .cells #[.map (some b)] 201) ∈ Q) (hA : Has e As A) (hb : (b, ob) ∈ A) (hM : MapO kvs ob) (hn : kvs.length ≤ 1000000000) (hl : ∀ x ∈ kvs, x.1.length ≤ 1000000000) :
    Calls Tryz.prog 80 #[.func (.func 319) #[] #[.pointer (some ⟨q, 0, none⟩)]] w (Ret e fun u Bs => ∃ ns A', Row 9 1 u ns.length (ns.map S) A' ∧ ns = (kvs.map Prod.fst).mergeSort (fun x y => decide (x ≤ y)) ∧ Bs = A' :: As) := by
  have hb' := hw.has hA hb
  have hq' := hw.has hQ hq
  obtain ⟨D0, hown, hperm, hsize⟩ := owns_str Tryz.underlying9 hb' hM (by simp only [maxLen]; omega) (fun x hx => by have := hl x hx; simp only [maxLen]; omega)
  have hlt : q < w.heap.size := (Array.getElem?_eq_some_iff.1 hq').1
  have hseq : SeqGives Fence.wide 2 Tryz.prog 319 #[.pointer (some ⟨q, 0, none⟩)] encStr (fun ss => ss.Perm (strKeys D0)) (Maps.size D0) w :=
    AnyZ.keys_gives (ρ := Tryz.keys277_ren) { Tryz.keys277 with } Fence.wide _ trivial rfl (by omega) q b _ D0 _ hlt (by simp [World.cell?, hq']) hown
  refine ret_str hw (Calls.mono (callsIn_wide.1 (AnyZ.sorted_in Tryz.sorted80 Fence.wide 5 trivial trivial trivial trivial rfl (by omega) (sorts80 _) (enters_of Tryz.func156 (by kernel_rfl) rfl) 319 #[.pointer (some ⟨q, 0, none⟩)] trivial (enters_of Tryz.func319 (by kernel_rfl) rfl) _ _ (by rw [hsize]; simp only [maxLen]; omega) (by rw [hsize]; omega) _ hseq)) ?_)
  rintro en w' ⟨v, ss, rfl, hp, hr, hnil, hB⟩
  exact ⟨v, ss, rfl, hp.trans hperm, hr, hnil, hB⟩
end
end Go.Proofs.YteejmoldhbfdnaaGreatDoor.Keys
