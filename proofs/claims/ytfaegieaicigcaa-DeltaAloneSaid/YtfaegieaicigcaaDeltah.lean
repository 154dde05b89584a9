/- The contract of Apply. -/
import Derived.Test.YtfaegieaicigcaaDeltag
set_option linter.unusedVariables false
set_option linter.unusedSimpArgs false
set_option maxRecDepth 10000
set_option maxHeartbeats 2000000
namespace Go.Proofs.K
open Go.Sl
attribute [local irreducible] Go.Sl.Own Go.Sl.Blk Go.Sl.Sep Go.Sl.Ex Go.Sl.Fact

theorem eyeNum_less {st : Int × List UInt8} (most : Int) (h0 : st.1 = 0) (h : st.2 ≠ []) : (eyeNum st most).2.2.length < st.2.length := by
  obtain ⟨e, l⟩ := st
  simp only at h0 h
  subst h0
  cases l with
  | nil => exact absurd rfl h
  | cons b r =>
    rw [eyeNum, if_pos rfl]
    show (getN (b :: r) 0 0 most).2.2.length < r.length + 1
    rw [getN]
    split
    · simp
    · split
      · exact Nat.lt_succ_of_le (getN_rest r _ _ _)
      · split <;> simp
theorem makeA_none {base q : List UInt8} (h : makeA base q [] = []) : q = [] := by
  rcases makeA_split base q with hs | ⟨k, k1, k2, hs⟩ | ⟨k1, hs⟩
  · exact hs
  · have := congrArg List.length (h.symm.trans hs)
    have h2 := numN_len_pos (2 * k)
    simp at this; omega
  · have := congrArg List.length (h.symm.trans hs)
    have h2 := numN_len_pos (2 * (longN base q).2 + 1)
    simp at this; omega
theorem ApI_end {base p out : List UInt8} {st : Int × List UInt8} (h : ApI base p out st) (q : List UInt8) (h1 : q.length ≤ 900) (h2 : p = deltaN base q) : st.1 = 0 ∧ out.length ≤ 900 ∧ (st.2 = [] → out = q ∧ eyeEnd st = 0) := by
  obtain ⟨h3, q', h4, h5⟩ := h q h1 h2
  have hq := congrArg List.length h4
  rw [List.length_append] at hq
  refine ⟨h3, by omega, fun e => ?_⟩
  rw [e] at h5
  have := makeA_none h5.symm
  subst this
  exact ⟨by rw [h4, List.append_nil], by rw [eyeEnd, if_neg (by rw [e]; simp), h3]⟩
end Go.Proofs.K
