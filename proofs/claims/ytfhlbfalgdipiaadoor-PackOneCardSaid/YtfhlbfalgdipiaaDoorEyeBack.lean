/- Eyes, looked at from behind: what was taken stood there. -/
import Derived.Test.YtfhlbfalgdipiaaDoorDigitLaw
set_option linter.unusedVariables false
namespace Go.Sl

theorem eyeRaw_back {st : Int × List UInt8} {n : Int} (h : (eyeRaw st n).2.1 = 0) : st.1 = 0 ∧ st.2 = (eyeRaw st n).1 ++ (eyeRaw st n).2.2 := by
  unfold eyeRaw at h ⊢
  by_cases h1 : st.1 ≠ 0 ∨ n ≤ 0
  · rw [if_pos h1] at h ⊢; exact ⟨h, rfl⟩
  · rw [if_neg h1] at h ⊢
    by_cases h2 : (st.2.length : Int) < n
    · rw [if_pos h2] at h; cases h
    · rw [if_neg h2]; exact ⟨Decidable.not_not.1 (fun q => h1 (.inl q)), (List.take_append_drop _ _).symm⟩
theorem eyeRaw_length {st : Int × List UInt8} {n : Int} (h : (eyeRaw st n).2.1 = 0) (h0 : 0 ≤ n) : ((eyeRaw st n).1.length : Int) = n := by
  have hb := (eyeRaw_back h).1
  unfold eyeRaw at h ⊢
  by_cases h1 : st.1 ≠ 0 ∨ n ≤ 0
  · rw [if_pos h1]; rcases h1 with h1 | h1
    · exact absurd hb h1
    · simp; omega
  · rw [if_neg h1] at h ⊢
    by_cases h2 : (st.2.length : Int) < n
    · rw [if_pos h2] at h; cases h
    · rw [if_neg h2]; simp; omega
theorem numN_one {b : UInt8} (h : ¬ b < 128) : numN (b.toNat % 128) = [b] := by
  have hb := b.toNat_lt
  have h2 : 128 ≤ b.toNat := by
    rw [UInt8.lt_iff_toNat_lt] at h; simpa using h
  rw [numN, dif_pos (by omega), show b.toNat % 128 + 128 = b.toNat by omega]
  simp
theorem numN_more {b : UInt8} (h : b < 128) {m : Nat} (hm : m ≠ 0) : numN (b.toNat % 128 + m * 128) = b :: numN m := by
  have h2 : b.toNat < 128 := by
    rw [UInt8.lt_iff_toNat_lt] at h; simpa using h
  rw [numN, dif_neg (by omega), show (b.toNat % 128 + m * 128) % 128 = b.toNat by omega, show (b.toNat % 128 + m * 128) / 128 = m by omega]
  simp
theorem getN_back (most : Int) : ∀ (l : List UInt8) (i u : Nat), (getN l i u most).2.1 = 0 → ∃ m : Nat, (getN l i u most).1 = ((u + m * 128 ^ i : Nat) : Int) ∧ l = numN m ++ (getN l i u most).2.2 ∧ (0 < i → m ≠ 0)
  | [], i, u, h => by simp [getN] at h
  | b :: r, i, u, h => by
    rw [getN] at h ⊢
    by_cases h1 : i = 9 ∨ (b = 128 ∧ 0 < i)
    · rw [if_pos h1] at h; cases h
    · rw [if_neg h1] at h ⊢
      by_cases h2 : b < 128
      · rw [if_pos h2] at h ⊢
        obtain ⟨m, e1, e2, e3⟩ := getN_back most r (i + 1) _ h
        have hm := e3 (by omega)
        refine ⟨b.toNat % 128 + m * 128, ?_, ?_, fun _ => by omega⟩
        · rw [e1]; congr 1; rw [Nat.pow_succ, Nat.add_mul, Nat.add_assoc, Nat.mul_assoc m 128, Nat.mul_comm 128]
        · rw [numN_more h2 hm, List.cons_append, ← e2]
      · rw [if_neg h2] at h ⊢
        by_cases h3 : max most 0 < ((u + b.toNat % 128 * 128 ^ i : Nat) : Int)
        · rw [if_pos h3] at h; cases h
        · rw [if_neg h3]
          refine ⟨b.toNat % 128, rfl, by rw [numN_one h2]; rfl, fun hi hm => h1 (.inr ⟨?_, hi⟩)⟩
          have hb := b.toNat_lt
          have h4 : 128 ≤ b.toNat := by
            rw [UInt8.lt_iff_toNat_lt] at h2; simpa using h2
          apply UInt8.toNat_inj.1
          show b.toNat = 128
          omega
theorem eyeNum_back {st : Int × List UInt8} {most : Int} (h : (eyeNum st most).2.1 = 0) : st.1 = 0 ∧ st.2 = numN (eyeNum st most).1.toNat ++ (eyeNum st most).2.2 ∧ 0 ≤ (eyeNum st most).1 := by
  unfold eyeNum at h ⊢
  by_cases h1 : st.1 = 0
  · rw [if_pos h1] at h ⊢
    obtain ⟨m, e1, e2, _⟩ := getN_back most _ 0 0 h
    refine ⟨h1, ?_, by rw [e1]; omega⟩
    rw [e1, show ((0 + m * 128 ^ 0 : Nat) : Int).toNat = m by simp]
    exact e2
  · rw [if_neg h1] at h; exact absurd h h1
theorem eyeText_back {st : Int × List UInt8} {most : Int} (h : (eyeText st most).2.1 = 0) : st.1 = 0 ∧ st.2 = (numN (eyeText st most).1.length ++ (eyeText st most).1) ++ (eyeText st most).2.2 := by
  unfold eyeText at h ⊢
  obtain ⟨h1, h2⟩ := eyeRaw_back h
  obtain ⟨h3, h4, h5⟩ := eyeNum_back h1
  have h6 := eyeRaw_length h h5
  refine ⟨h3, ?_⟩
  rw [List.append_assoc, ← h2, show (eyeRaw (eyeNum st most).2 (eyeNum st most).1).1.length = (eyeNum st most).1.toNat by omega]
  exact h4
theorem eyeEnd_back {st : Int × List UInt8} (h : eyeEnd st = 0) : st.1 = 0 ∧ st.2 = [] := by
  unfold eyeEnd at h
  by_cases h1 : st.1 = 0 ∧ 0 < st.2.length
  · rw [if_pos h1] at h; cases h
  · rw [if_neg h1] at h
    exact ⟨h, List.eq_nil_of_length_eq_zero (by omega)⟩
end Go.Sl
