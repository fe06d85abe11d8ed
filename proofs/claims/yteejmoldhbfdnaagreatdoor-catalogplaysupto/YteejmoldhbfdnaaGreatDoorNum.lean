/- Numerals, files' names: plain laws. -/
import Derived.Test.YteejmoldhbfdnaaGreatDoorWal
import Derived.Lib.AtoiTie
import Derived.Lib.ItoaMem
namespace Go.Proofs.YteejmoldhbfdnaaGreatDoor.Num
open Go.W Go.RowKit Disk Wal
theorem decFrom_snoc (b : UInt8) : ∀ (l : Str) (acc : Nat), Lib.decFrom acc (l ++ [b]) = (Lib.decFrom acc l).bind fun n => (Lib.digitVal b).map fun d => n * 10 + d
  | [], acc => by
    simp only [List.nil_append, Lib.decFrom]
    cases Lib.digitVal b <;> rfl
  | c :: l, acc => by
    simp only [List.cons_append, Lib.decFrom]
    cases Lib.digitVal c with
    | none => rfl
    | some d => exact decFrom_snoc b l _
theorem digit_toNat {d : Nat} (h : d < 10) : (UInt8.ofNat (48 + d)).toNat = 48 + d := by
  rw [UInt8.toNat_ofNat']; omega
theorem digitVal_of {d : Nat} (h : d < 10) : Lib.digitVal (UInt8.ofNat (48 + d)) = some d := by
  unfold Lib.digitVal
  rw [digit_toNat h, if_pos (by omega)]
  congr 1; omega
theorem decFrom_dec (u : Nat) : Lib.decFrom 0 (Lib.decDigits u) = some u := by
  induction u using Nat.strongRecOn with
  | _ u ih =>
    rw [Lib.decDigits]
    by_cases h : u < 10
    · rw [dif_pos h]; simp only [Lib.decFrom, digitVal_of h]; simp
    · rw [dif_neg h, decFrom_snoc, ih (u / 10) (by omega), Option.bind_some, digitVal_of (by omega)]
      simp; omega
theorem dec_ne (u : Nat) : Lib.decDigits u ≠ [] := by
  rw [Lib.decDigits]
  split <;> simp
theorem dec_digits (u : Nat) : ∀ c ∈ Lib.decDigits u, 48 ≤ c.toNat ∧ c.toNat ≤ 57 := by
  induction u using Nat.strongRecOn with
  | _ u ih =>
    rw [Lib.decDigits]
    by_cases h : u < 10
    · rw [dif_pos h]; intro c hc; rw [List.mem_singleton] at hc; subst hc; rw [digit_toNat h]; omega
    · rw [dif_neg h]
      intro c hc
      rcases List.mem_append.1 hc with hc | hc
      · exact ih (u / 10) (by omega) c hc
      · rw [List.mem_singleton] at hc; subst hc; rw [digit_toNat (show u % 10 < 10 by omega)]; omega
theorem dec_len : ∀ (k u : Nat), 1 ≤ k → u < 10 ^ k → (Lib.decDigits u).length ≤ k
  | 0, _, h, _ => by omega
  | k + 1, u, _, h => by
    rw [Lib.decDigits]
    by_cases h1 : u < 10
    · rw [dif_pos h1]; simp
    · rw [dif_neg h1]
      have hk : 1 ≤ k := by
        cases k with
        | zero => simp at h; omega
        | succ k => omega
      have := dec_len k (u / 10) hk (by rw [Nat.pow_succ] at h; omega)
      simp; omega
theorem itoa_nat (n : Nat) : Lib.itoa (n : Int) = Lib.decDigits n := Lib.itoa_nonneg n
theorem itoa_inj {a b : Nat} (h : Lib.itoa (a : Int) = Lib.itoa (b : Int)) : a = b := by
  rw [itoa_nat, itoa_nat] at h
  have h1 := decFrom_dec a
  rw [h, decFrom_dec b] at h1
  exact (Option.some.inj h1).symm
theorem atoi_itoa {n : Nat} (h : n < 10 ^ 18) : Lib.atoiAll (Lib.itoa (n : Int)) = .ok (n : Int) := by
  rw [itoa_nat, Lib.atoiAll_short _ (dec_len 18 n (by omega) h)]
  have h1 := dec_digits n
  have h2 := decFrom_dec n
  cases hq : Lib.decDigits n with
  | nil => exact absurd hq (dec_ne n)
  | cons b r =>
    rw [hq] at h1 h2
    have hb := h1 b (.head _)
    have n1 : (b == 45) = false := by
      rw [beq_eq_false_iff_ne]; intro q; subst q; simp at hb
    have n2 : (b == 43) = false := by
      rw [beq_eq_false_iff_ne]; intro q; subst q; simp at hb
    simp [Lib.atoi, n1, n2, Lib.decNat, h2, Lib.NumEnd.ofOption]
/-- A log's base: short, without a dot. -/
def okBase (b : Str) : Prop := b ≠ [] ∧ b.length ≤ 20 ∧ ∀ c ∈ b, gch c ∧ c.toNat ≠ 46
theorem good_base {b : Str} (h : okBase b) : good b := by
  obtain ⟨h1, h2, h3⟩ := h
  refine ⟨h1, by omega, ?_, ?_, fun c hc => (h3 c hc).1⟩
  · intro q; subst q; exact (h3 46 (.head _)).2 rfl
  · intro q; subst q; exact (h3 46 (.head _)).2 rfl
theorem good_file {b : Str} {n : Nat} (h : okBase b) (hn : n ≤ 999999999) : good (fileF b n) := by
  obtain ⟨h1, h2, h3⟩ := h
  have hl := dec_len 9 n (by omega) (by omega)
  have hd := dec_ne n
  have hb : 1 ≤ b.length := by cases b <;> simp at h1 ⊢
  have hd' : 1 ≤ (Lib.decDigits n).length := by
    cases hq : Lib.decDigits n with
    | nil => exact absurd hq hd
    | cons => simp
  have hlen : (fileF b n).length = b.length + 1 + (Lib.decDigits n).length := by simp [fileF, itoa_nat]; omega
  refine ⟨?_, by omega, ?_, ?_, ?_⟩
  · intro q; rw [q] at hlen; simp at hlen; omega
  · intro q; rw [q] at hlen; simp at hlen; omega
  · intro q; rw [q] at hlen; simp at hlen; omega
  · intro c hc
    rw [fileF, itoa_nat] at hc
    rcases List.mem_append.1 hc with hc | hc
    · rcases List.mem_append.1 hc with hc | hc
      · exact (h3 c hc).1
      · simp at hc; subst hc; exact .inr (.inr (.inl rfl))
    · exact .inr (.inl (dec_digits n c hc))
theorem file_pre (b : Str) (n : Nat) : Kit.hasPre (b ++ [46]) (fileF b n) = true ∧ (fileF b n).drop (b ++ [46]).length = Lib.itoa (n : Int) := by
  unfold fileF Kit.hasPre
  exact ⟨decide_eq_true (List.take_left' rfl), List.drop_left' rfl⟩
theorem file_inj {b : Str} {m n : Nat} (h : fileF b m = fileF b n) : m = n := by
  unfold fileF at h
  exact itoa_inj (List.append_cancel_left h)
end Go.Proofs.YteejmoldhbfdnaaGreatDoor.Num
