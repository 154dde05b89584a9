/- Plain laws of digits: what an eye reads of what a pen has laid, whole or cut. -/
import Derived.Test.YtfhlbfalgdipiaaDoorDigitPure
set_option linter.unusedVariables false
namespace Go.Sl

theorem getN_numN (r : List UInt8) (most : Int) : ∀ (k m i u : Nat), m < 128 ^ k → i + k ≤ 9 → 0 < k → (i = 0 ∨ m ≠ 0) →
    getN (numN m ++ r) i u most = if max most 0 < ((u + m * 128 ^ i : Nat) : Int) then (0, (5, [])) else (((u + m * 128 ^ i : Nat) : Int), (0, r))
  | 0, m, i, u, _, _, h0, _ => by omega
  | k + 1, m, i, u, hm, hi, _, h0 => by
    unfold numN
    have hi9 : ¬ i = 9 := by omega
    by_cases h : m < 128
    · rw [dif_pos h]
      have e1 : (UInt8.ofNat (m + 128)).toNat = m + 128 := by rw [UInt8.toNat_ofNat']; omega
      have e2 : ¬ (UInt8.ofNat (m + 128)) < 128 := by rw [UInt8.lt_iff_toNat_lt, e1]; show ¬ m + 128 < 128; omega
      have e3 : ¬ (i = 9 ∨ (UInt8.ofNat (m + 128) = 128 ∧ 0 < i)) := by
        rintro (hh | ⟨hh, hh2⟩)
        · exact hi9 hh
        · have := congrArg UInt8.toNat hh; rw [e1] at this
          have : m + 128 = 128 := this
          omega
      simp only [List.cons_append, List.nil_append, getN]
      rw [if_neg e3, if_neg e2, e1, show (m + 128) % 128 = m by omega]
    · rw [dif_neg h]
      have e1 : (UInt8.ofNat (m % 128)).toNat = m % 128 := by rw [UInt8.toNat_ofNat']; omega
      have e2 : (UInt8.ofNat (m % 128)) < 128 := by rw [UInt8.lt_iff_toNat_lt, e1]; show m % 128 < 128; omega
      have e3 : ¬ (i = 9 ∨ (UInt8.ofNat (m % 128) = 128 ∧ 0 < i)) := by
        rintro (hh | ⟨hh, hh2⟩)
        · exact hi9 hh
        · have := congrArg UInt8.toNat hh; rw [e1] at this
          have : m % 128 = 128 := this
          omega
      simp only [List.cons_append, getN]
      have hk : 0 < k := by
        rcases Nat.eq_zero_or_pos k with hk | hk
        · subst hk; simp at hm; omega
        · exact hk
      rw [if_neg e3, if_pos e2, e1, Nat.mod_mod, getN_numN r most k (m / 128) (i + 1) _ (by rw [Nat.div_lt_iff_lt_mul (by omega)]; rw [Nat.pow_succ] at hm; exact hm) (by omega) hk (.inr (by omega))]
      have e4 : u + m % 128 * 128 ^ i + m / 128 * 128 ^ (i + 1) = u + m * 128 ^ i := by
        rw [Nat.pow_succ, Nat.mul_comm (128 ^ i) 128, ← Nat.mul_assoc, Nat.add_assoc, ← Nat.add_mul]
        congr 2; omega
      rw [e4]

theorem eyeNum_numN (m : Nat) (r : List UInt8) (most : Int) (hm : m < 9223372036854775808) :
    eyeNum (0, numN m ++ r) most = if max most 0 < (m : Int) then (0, (5, [])) else ((m : Int), (0, r)) := by
  have := getN_numN r most 9 m 0 0 (by simpa using hm) (by omega) (by omega) (.inl rfl)
  simp only [Nat.zero_add, Nat.pow_zero, Nat.mul_one] at this
  simpa [eyeNum] using this

theorem getN_cut (most : Int) : ∀ (k m i u j : Nat), m < 128 ^ k → i + k ≤ 9 → 0 < k → (i = 0 ∨ m ≠ 0) → j < (numN m).length → getN ((numN m).take j) i u most = (0, (6, []))
  | 0, _, _, _, _, _, _, h, _, _ => by omega
  | k + 1, m, i, u, 0, _, _, _, _, _ => by simp [getN]
  | k + 1, m, i, u, j + 1, hm, hi, _, h0, hj => by
    unfold numN at hj ⊢
    by_cases h : m < 128
    · rw [dif_pos h] at hj; simp at hj
    · rw [dif_neg h] at hj ⊢
      have hi9 : ¬ i = 9 := by omega
      have e1 : (UInt8.ofNat (m % 128)).toNat = m % 128 := by rw [UInt8.toNat_ofNat']; omega
      have e2 : (UInt8.ofNat (m % 128)) < 128 := by rw [UInt8.lt_iff_toNat_lt, e1]; show m % 128 < 128; omega
      have e3 : ¬ (i = 9 ∨ (UInt8.ofNat (m % 128) = 128 ∧ 0 < i)) := by
        rintro (hh | ⟨hh, hh2⟩)
        · exact hi9 hh
        · have := congrArg UInt8.toNat hh; rw [e1] at this
          have : m % 128 = 128 := this
          omega
      have hk : 0 < k := by
        rcases Nat.eq_zero_or_pos k with hk | hk
        · subst hk; simp at hm; omega
        · exact hk
      simp only [List.take_succ_cons, getN]
      rw [if_neg e3, if_pos e2]
      exact getN_cut most k (m / 128) (i + 1) _ j (by rw [Nat.div_lt_iff_lt_mul (by omega)]; rw [Nat.pow_succ] at hm; exact hm) (by omega) hk (.inr (by omega)) (by simpa using hj)

theorem eyeNum_cut (m j : Nat) (most : Int) (hm : m < 9223372036854775808) (hj : j < (numN m).length) : eyeNum (0, (numN m).take j) most = (0, (6, [])) := by
  have := getN_cut most 9 m 0 0 j (by simpa using hm) (by omega) (by omega) (.inl rfl) hj
  simpa [eyeNum] using this

/-- the statements' number from 0 on -/
def hnum (n : Int) : Nat := (UInt64.ofInt n).toNat / 2
theorem hnum_lt (n : Int) : hnum n < 9223372036854775808 := by
  have := (UInt64.ofInt n).toNat_lt
  unfold hnum; omega
def encN (l : List Int) : List UInt8 := l.flatMap fun n => numN (hnum n)
theorem encN_len (l : List Int) : (encN l).length ≤ 9 * l.length := by
  induction l with
  | nil => simp [encN]
  | cons n l ih =>
    have := numN_len9 (hnum n) (hnum_lt n)
    simp only [encN, List.flatMap_cons, List.length_append, List.length_cons] at ih ⊢
    omega
theorem encN_snoc (l : List Int) (n : Int) : encN (l ++ [n]) = encN l ++ numN (hnum n) := by simp [encN]
theorem take_snoc {α : Type} {l : List α} {i : Nat} {x : α} (h : l[i]? = some x) : l.take (i + 1) = l.take i ++ [x] := by
  rw [List.take_add_one, h]; rfl
theorem drop_cons {α : Type} {l : List α} {i : Nat} {x : α} (h : l[i]? = some x) : l.drop i = x :: l.drop (i + 1) := by
  have hlt : i < l.length := (List.getElem?_eq_some_iff.1 h).1
  rw [List.drop_eq_getElem_cons hlt]
  congr 1
  exact (List.getElem?_eq_some_iff.1 h).2

def encT (l : List (List UInt8)) : List UInt8 := l.flatMap fun p => numN p.length ++ p
theorem eyeText_enc (p r : List UInt8) (most : Int) (hp : p.length < 9223372036854775808) (hm : 0 ≤ most) :
    eyeText (0, (numN p.length ++ p) ++ r) most = if most < (p.length : Int) then ([], (5, [])) else (p, (0, r)) := by
  have e : eyeNum (0, numN p.length ++ (p ++ r)) most = if max most 0 < (p.length : Int) then (0, (5, [])) else ((p.length : Int), (0, p ++ r)) := eyeNum_numN _ _ _ hp
  unfold eyeText
  rw [List.append_assoc, e, show max most 0 = most by omega]
  split
  · simp [eyeRaw]
  · by_cases h0 : p.length = 0
    · have : p = [] := List.eq_nil_of_length_eq_zero h0
      subst this; simp [eyeRaw]
    · have : ¬ ((p.length : Int) ≤ 0) := by omega
      have h2 : ¬ (((p ++ r).length : Int) < (p.length : Int)) := by simp; omega
      simp only [eyeRaw]
      rw [if_neg (by rintro (hh | hh); exact hh rfl; exact this hh), if_neg h2]
      simp
end Go.Sl
