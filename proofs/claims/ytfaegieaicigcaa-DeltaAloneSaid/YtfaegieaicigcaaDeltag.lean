/- What Apply's loop keeps, in plain things. -/
import Derived.Test.YtfaegieaicigcaaDeltaf
import Derived.Test.YtfaegieaicigcaaCommitBack
set_option linter.unusedVariables false
set_option linter.unusedSimpArgs false
set_option maxHeartbeats 2000000
namespace Go.Proofs.K
open Go.Sl
/-- an eye upon a delta of q stands between two of its parts -/
def ApI (base p out : List UInt8) (st : Int × List UInt8) : Prop := ∀ q : List UInt8, q.length ≤ 900 → p = deltaN base q → st.1 = 0 ∧ ∃ q', q = out ++ q' ∧ st.2 = makeA base q' []
theorem ApI_start (base p : List UInt8) : ApI base p [] (0, p) := fun q h1 h2 => ⟨rfl, q, rfl, h2⟩
theorem ApI_even {base p out : List UInt8} {st : Int × List UInt8} (h : ApI base p out st) (h0 : st.2 ≠ []) (he : (eyeNum st 1801).1 % 2 = 0) :
    ApI base p (out ++ (eyeRaw (eyeNum st 1801).2 ((eyeNum st 1801).1 / 2)).1) (eyeRaw (eyeNum st 1801).2 ((eyeNum st 1801).1 / 2)).2 := by
  intro q h1 h2
  obtain ⟨h3, q', h4, h5⟩ := h q h1 h2
  obtain ⟨e, l⟩ := st
  simp only at h3 h5 h0
  subst h3 h5
  have hq := congrArg List.length h4
  rw [List.length_append] at hq
  rcases makeA_split base q' with hs | ⟨k, k1, k2, hs⟩ | ⟨k1, hs⟩
  · subst hs; exact absurd rfl h0
  · rw [hs, List.append_assoc, eyeNum_numN _ _ _ (by omega), if_neg (by omega)] at he ⊢
    simp only at he ⊢
    rw [show ((2 * k : Nat) : Int) / 2 = (k : Int) by omega, eyeRaw_enc _ _ _ (by simp; omega)]
    exact ⟨rfl, q'.drop k, by rw [List.append_assoc, List.take_append_drop]; exact h4, rfl⟩
  · have hl := (longN_le base q').1
    rw [hs, List.append_assoc, eyeNum_numN _ _ _ (by omega), if_neg (by omega)] at he
    simp only at he
    omega
theorem ApI_odd {base p out : List UInt8} {st : Int × List UInt8} (h : ApI base p out st) (hb : base.length ≤ 1000000) (h0 : st.2 ≠ []) (he : ¬ (eyeNum st 1801).1 % 2 = 0) (q : List UInt8) (h1 : q.length ≤ 900) (h2 : p = deltaN base q) :
    (eyeNum st 1801).1 / 2 ≤ (base.length : Int) - (eyeNum (eyeNum st 1801).2 base.length).1 ∧ (eyeNum (eyeNum st 1801).2 base.length).2.1 = 0 ∧
    ∃ q', q = out ++ (base.drop (eyeNum (eyeNum st 1801).2 base.length).1.toNat).take ((eyeNum st 1801).1 / 2).toNat ++ q' ∧ (eyeNum (eyeNum st 1801).2 base.length).2.2 = makeA base q' [] := by
  obtain ⟨h3, q', h4, h5⟩ := h q h1 h2
  obtain ⟨e, l⟩ := st
  simp only at h3 h5 h0
  subst h3 h5
  have hq := congrArg List.length h4
  rw [List.length_append] at hq
  have hl := longN_le base q'
  rcases makeA_split base q' with hs | ⟨k, k1, k2, hs⟩ | ⟨k1, hs⟩
  · subst hs; exact absurd rfl h0
  · rw [hs, List.append_assoc, eyeNum_numN _ _ _ (by omega), if_neg (by omega)] at he
    simp only at he
    omega
  · rw [hs, List.append_assoc, eyeNum_numN _ _ _ (by omega), if_neg (by omega)]
    simp only
    rw [eyeNum_numN _ _ _ (by omega), if_neg (by omega)]
    simp only
    refine ⟨by omega, by first | rfl | trivial, q'.drop (longN base q').2, ?_, by first | rfl | trivial⟩
    rw [Int.toNat_natCast, show (((2 * (longN base q').2 + 1 : Nat) : Int) / 2).toNat = (longN base q').2 by omega, List.append_assoc, ← piece_same]
    exact h4
end Go.Proofs.K
