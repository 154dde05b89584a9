/- Deltas as plain things: the longest piece, what is told and copied. -/
import Derived.Test.YtfhlbfalgdipiaaDoorDigitLaw
set_option linter.unusedVariables false
namespace Go.Sl

/-- how many bytes two texts begin with alike -/
def lcp : List UInt8 → List UInt8 → Nat
  | x :: l, y :: m => if x = y then lcp l m + 1 else 0
  | _, _ => 0
def longA (p : List UInt8) : List UInt8 → Nat → Nat → Nat → Nat × Nat
  | [], _, a, n => (a, n)
  | x :: r, i, a, n => if n < lcp (x :: r) p then longA p r (i + 1) i (lcp (x :: r) p) else longA p r (i + 1) a n
/-- where the longest beginning of p stands in base, how long it is -/
def longN (base p : List UInt8) : Nat × Nat := longA p base 0 0 0
theorem lcp_le : ∀ (l m : List UInt8), lcp l m ≤ l.length ∧ lcp l m ≤ m.length
  | [], m => by simp [lcp]
  | _ :: _, [] => by simp [lcp]
  | x :: l, y :: m => by
    have ⟨h1, h2⟩ := lcp_le l m
    rw [lcp]; split <;> simp <;> omega
theorem lcp_take : ∀ (l m : List UInt8) (n : Nat), n ≤ lcp l m ↔ l.take n = m.take n ∧ n ≤ l.length ∧ n ≤ m.length
  | l, m, 0 => by simp
  | [], m, n + 1 => by simp [lcp]
  | _ :: _, [], n + 1 => by simp [lcp]
  | x :: l, y :: m, n + 1 => by
    have h := lcp_take l m n
    rw [lcp]
    by_cases e : x = y
    · subst e
      rw [if_pos rfl]
      simp only [List.take_succ_cons, List.cons.injEq, true_and, List.length_cons, Nat.add_le_add_iff_right]
      exact h
    · rw [if_neg e]
      simp [e]
theorem longA_spec (p : List UInt8) : ∀ (l : List UInt8) (i a n : Nat),
    ((longA p l i a n) = (a, n) ∧ ∀ k < l.length, lcp (l.drop k) p ≤ n) ∨
    (n < (longA p l i a n).2 ∧ ∃ j < l.length, (longA p l i a n).1 = i + j ∧ lcp (l.drop j) p = (longA p l i a n).2 ∧ (∀ k < j, lcp (l.drop k) p < (longA p l i a n).2) ∧ ∀ k < l.length, lcp (l.drop k) p ≤ (longA p l i a n).2)
  | [], i, a, n => .inl ⟨rfl, by simp⟩
  | x :: r, i, a, n => by
    rw [longA]
    by_cases h : n < lcp (x :: r) p
    · rw [if_pos h]
      right
      rcases longA_spec p r (i + 1) i (lcp (x :: r) p) with ⟨e, h1⟩ | ⟨h1, j, hj, h2, h3, h4, h5⟩
      · rw [e]
        refine ⟨h, 0, by simp, rfl, rfl, by simp, fun k hk => ?_⟩
        cases k with
        | zero => exact Nat.le_refl _
        | succ k => exact h1 k (by simpa using hk)
      · refine ⟨by omega, j + 1, by simpa using hj, by rw [h2]; omega, h3, fun k hk => ?_, fun k hk => ?_⟩
        · cases k with
          | zero => exact h1
          | succ k => exact h4 k (by omega)
        · cases k with
          | zero => exact Nat.le_of_lt h1
          | succ k => exact h5 k (by simpa using hk)
    · rw [if_neg h]
      rcases longA_spec p r (i + 1) a n with ⟨e, h1⟩ | ⟨h1, j, hj, h2, h3, h4, h5⟩
      · refine .inl ⟨e, fun k hk => ?_⟩
        cases k with
        | zero => show lcp (x :: r) p ≤ n; omega
        | succ k => exact h1 k (by simpa using hk)
      · refine .inr ⟨h1, j + 1, by simpa using hj, by rw [h2]; omega, h3, fun k hk => ?_, fun k hk => ?_⟩
        · cases k with
          | zero => show lcp (x :: r) p < _; omega
          | succ k => exact h4 k (by omega)
        · cases k with
          | zero => show lcp (x :: r) p ≤ _; omega
          | succ k => exact h5 k (by simpa using hk)
/-- the longest piece, known by what it is -/
theorem longN_eq {base p : List UInt8} {a n : Nat} (h0 : 0 < n) (hm : n ≤ lcp (base.drop a) p) (hf : ∀ k < a, lcp (base.drop k) p < n) (hx : ∀ k, lcp (base.drop k) p ≤ n) : longN base p = (a, n) := by
  have ha : a < base.length := by
    have := (lcp_le (base.drop a) p).1
    rw [List.length_drop] at this; omega
  rcases longA_spec p base 0 0 0 with ⟨e, h1⟩ | ⟨h1, j, hj, h2, h3, h4, h5⟩
  · have := h1 a ha; omega
  · have hn : (longN base p).2 = n := by
      have e1 := h5 a ha
      have e2 := hx j
      rw [h3] at e2
      show (longA p base 0 0 0).2 = n
      omega
    have hn' : (longA p base 0 0 0).2 = n := hn
    have hj2 : j = a := by
      rcases Nat.lt_trichotomy j a with q | q | q
      · have := hf j q; rw [h3, hn'] at this; omega
      · exact q
      · have := h4 a q; rw [hn'] at this; omega
    refine Prod.ext ?_ hn
    show (longA p base 0 0 0).1 = a
    rw [h2, hj2]; omega
theorem longN_none {base p : List UInt8} (hx : ∀ k, lcp (base.drop k) p = 0) : longN base p = (0, 0) := by
  rcases longA_spec p base 0 0 0 with ⟨e, h1⟩ | ⟨h1, j, hj, h2, h3, h4, h5⟩
  · exact e
  · have := hx j; rw [h3] at this; omega
theorem longN_le (base p : List UInt8) : (longN base p).2 ≤ p.length ∧ (longN base p).1 + (longN base p).2 ≤ base.length := by
  rcases longA_spec p base 0 0 0 with ⟨e, h1⟩ | ⟨h1, j, hj, h2, h3, h4, h5⟩
  · have e' : longN base p = (0, 0) := e
    rw [e']; simp
  · have h6 := lcp_le (base.drop j) p
    rw [h3, List.length_drop] at h6
    show (longA p base 0 0 0).2 ≤ _ ∧ (longA p base 0 0 0).1 + (longA p base 0 0 0).2 ≤ _
    omega
theorem longN_take (base p : List UInt8) : (base.drop (longN base p).1).take (longN base p).2 = p.take (longN base p).2 := by
  rcases longA_spec p base 0 0 0 with ⟨e, h1⟩ | ⟨h1, j, hj, h2, h3, h4, h5⟩
  · have e' : longN base p = (0, 0) := e
    rw [e']; simp
  · have h6 := (lcp_take (base.drop j) p (longA p base 0 0 0).2).1 (by rw [h3]; exact Nat.le_refl _)
    show (base.drop (longA p base 0 0 0).1).take (longA p base 0 0 0).2 = _
    rw [h2, Nat.zero_add]; exact h6.1
/-- what was gathered, as it is told -/
def tellN (t : List UInt8) : List UInt8 := if t = [] then [] else numN (2 * t.length) ++ t
/-- bytes by others -/
def makeN (base : List UInt8) : Nat → List UInt8 → List UInt8 → List UInt8
  | 0, _, t => tellN t
  | _, [], t => tellN t
  | f + 1, x :: r, t => if (longN base (x :: r)).2 < 4 then makeN base f r (t ++ [x]) else
    tellN t ++ numN (2 * (longN base (x :: r)).2 + 1) ++ numN (longN base (x :: r)).1 ++ makeN base f ((x :: r).drop (longN base (x :: r)).2) []
def deltaN (base p : List UInt8) : List UInt8 := makeN base p.length p []
end Go.Sl
