/- What is made, as a row of told runs and pieces. -/
import Derived.Test.YtfaegieaicigcaaDeltae
set_option linter.unusedVariables false
set_option linter.unusedSimpArgs false
set_option maxHeartbeats 2000000
namespace Go.Proofs.K
open Go.Sl
theorem makeA_run (base : List UInt8) : ∀ (q t : List UInt8), ∃ k, k ≤ q.length ∧ makeA base q t = tellN (t ++ q.take k) ++ makeA base (q.drop k) [] ∧ (q.drop k = [] ∨ 4 ≤ (longN base (q.drop k)).2)
  | [], t => ⟨0, Nat.le_refl _, by simp [makeA_nil, tellN_nil], .inl rfl⟩
  | x :: r, t => by
    by_cases h : (longN base (x :: r)).2 < 4
    · obtain ⟨k, h1, h2, h3⟩ := makeA_run base r (t ++ [x])
      refine ⟨k + 1, by simpa using h1, ?_, h3⟩
      rw [makeA_one (by simp) h]
      simpa using h2
    · refine ⟨0, Nat.zero_le _, ?_, .inr (by simpa using h)⟩
      rw [List.drop_zero, List.take_zero, List.append_nil, makeA_long h, makeA_long (t := []) h, tellN_nil]
      simp only [List.append_assoc, List.nil_append]
/-- what is left to be read, with nothing kept back: nothing, a told run, or a piece -/
theorem makeA_split (base q : List UInt8) : q = [] ∨ (∃ k, 0 < k ∧ k ≤ q.length ∧ makeA base q [] = numN (2 * k) ++ q.take k ++ makeA base (q.drop k) []) ∨
    (4 ≤ (longN base q).2 ∧ makeA base q [] = numN (2 * (longN base q).2 + 1) ++ numN (longN base q).1 ++ makeA base (q.drop (longN base q).2) []) := by
  obtain ⟨k, h1, h2, h3⟩ := makeA_run base q []
  by_cases hk : k = 0
  · subst hk
    rw [List.drop_zero] at h3
    rcases h3 with h3 | h3
    · exact .inl h3
    · right; right
      refine ⟨h3, ?_⟩
      rw [makeA_long (by omega), tellN_nil, List.nil_append]
  · right; left
    refine ⟨k, by omega, h1, ?_⟩
    have hl : (q.take k).length = k := by simp; omega
    rw [h2, List.nil_append, tellN_pos (by omega), hl]
/-- a piece stands in both -/
theorem piece_same (base q : List UInt8) : q = (base.drop (longN base q).1).take (longN base q).2 ++ q.drop (longN base q).2 := by
  rw [longN_take, List.take_append_drop]
end Go.Proofs.K
