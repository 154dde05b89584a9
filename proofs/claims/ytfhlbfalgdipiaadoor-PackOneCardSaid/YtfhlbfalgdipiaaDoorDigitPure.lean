/- Numbers as digits of base 128, and back: plain lists of bytes. -/
import Derived.Test.YtfhlbfalgdipiaaDoorSl
set_option linter.unusedVariables false
namespace Go.Sl

/-- the digits of a number, the lowest first, the last one marked -/
def numN (n : Nat) : List UInt8 := if h : n < 128 then [UInt8.ofNat (n + 128)] else UInt8.ofNat (n % 128) :: numN (n / 128)
termination_by n
decreasing_by omega

theorem numN_len_pos (n : Nat) : 0 < (numN n).length := by unfold numN; split <;> simp
theorem numN_len : ∀ (k n : Nat), n < 128 ^ k → (numN n).length ≤ max k 1
  | 0, n, h => by simp at h; subst h; unfold numN; simp
  | k + 1, n, h => by
    unfold numN
    split
    · simp
    · have h2 : n / 128 < 128 ^ k := by rw [Nat.div_lt_iff_lt_mul (by omega)]; rw [Nat.pow_succ] at h; exact h
      have := numN_len k (n / 128) h2
      have hk : k ≠ 0 := by intro e; subst e; simp at h2; omega
      simp only [List.length_cons]; omega
theorem numN_len9 (n : Nat) (h : n < 9223372036854775808) : (numN n).length ≤ 9 := by
  have := numN_len 9 n (by simpa using h); omega
theorem numN_len10 (n : Nat) (h : n < 18446744073709551616) : (numN n).length ≤ 10 := by
  have := numN_len 10 n (Nat.lt_of_lt_of_le h (by decide)); omega

/-- a number ahead, as an eye takes it: what it comes to, the fault, what is left -/
def getN : List UInt8 → Nat → Nat → Int → Int × (Int × List UInt8)
  | [], _, _, _ => (0, (6, []))
  | b :: r, i, u, most =>
    if i = 9 ∨ (b = 128 ∧ 0 < i) then (0, (7, [])) else
    if b < 128 then getN r (i + 1) (u + b.toNat % 128 * 128 ^ i) most
    else if max most 0 < ((u + b.toNat % 128 * 128 ^ i : Nat) : Int) then (0, (5, [])) else (((u + b.toNat % 128 * 128 ^ i : Nat) : Int), (0, r))

def eyeNum (st : Int × List UInt8) (most : Int) : Int × (Int × List UInt8) := if st.1 = 0 then getN st.2 0 0 most else (0, st)
def eyeRaw (st : Int × List UInt8) (n : Int) : List UInt8 × (Int × List UInt8) :=
  if st.1 ≠ 0 ∨ n ≤ 0 then ([], st) else if (st.2.length : Int) < n then ([], (6, [])) else (st.2.take n.toNat, (0, st.2.drop n.toNat))
def eyeText (st : Int × List UInt8) (most : Int) : List UInt8 × (Int × List UInt8) := eyeRaw (eyeNum st most).2 (eyeNum st most).1
def eyeFail (st : Int × List UInt8) (k : Int) : Int × List UInt8 := if st.1 = 0 then (k, []) else st
def eyeEnd (st : Int × List UInt8) : Int := if st.1 = 0 ∧ 0 < st.2.length then 7 else st.1

theorem or_add (u x i : Nat) (hu : u < 128 ^ i) : u ||| x * 2 ^ (7 * i) = u + x * 128 ^ i := by
  have e : (128 : Nat) ^ i = 2 ^ (7 * i) := by rw [Nat.pow_mul]
  rw [e] at hu ⊢
  rw [Nat.or_comm, Nat.mul_comm, ← Nat.two_pow_add_eq_or_of_lt hu, Nat.add_comm]

theorem digit_lt (u b i : Nat) (hu : u < 128 ^ i) : u + b % 128 * 128 ^ i < 128 ^ (i + 1) := by
  have : b % 128 ≤ 127 := by omega
  have h2 : b % 128 * 128 ^ i ≤ 127 * 128 ^ i := Nat.mul_le_mul_right _ this
  rw [Nat.pow_succ]; omega

theorem dig_low (u : UInt64) : (u &&& 127).toUInt8 = UInt8.ofNat (u.toNat % 128) := by
  apply UInt8.toNat_inj.1
  have : u.toNat &&& 127 = u.toNat % 128 := Nat.and_two_pow_sub_one_eq_mod u.toNat 7
  rw [UInt64.toNat_toUInt8, UInt64.toNat_and, UInt8.toNat_ofNat']
  show (u.toNat &&& 127) % 256 = _
  rw [this]
theorem dig_last (u : UInt64) (h : u.toNat < 128) : (u.toUInt8 ||| 128) = UInt8.ofNat (u.toNat + 128) := by
  apply UInt8.toNat_inj.1
  have h1 : 128 ||| u.toNat = 128 + u.toNat := (Nat.two_pow_add_eq_or_of_lt (i := 7) (b := u.toNat) (by omega) 1).symm
  rw [UInt8.toNat_or, UInt64.toNat_toUInt8, UInt8.toNat_ofNat', Nat.mod_eq_of_lt (by omega)]
  show u.toNat ||| 128 = _
  rw [Nat.or_comm, h1]
  omega
theorem dig_next (u : UInt64) : (UInt64.ofNat (u.toNat / 2 ^ (7 : Int).toNat)).toNat = u.toNat / 128 := by
  have hu := u.toNat_lt
  show (UInt64.ofNat (u.toNat / 128)).toNat = _
  rw [UInt64.toNat_ofNat']; omega
theorem ofInt_nat (m : Nat) (h : m < 18446744073709551616) : (UInt64.ofInt (m : Int)).toNat = m := by
  simp [UInt64.ofInt, UInt64.toNat_ofNat']; omega
end Go.Sl
