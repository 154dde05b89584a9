/- Numbers of four bytes, the lowest first. Plain Lean. -/
import Derived.Test.YtnplbpmdehcknaaSl
set_option linter.unusedVariables false
namespace Go.Sl
/-! numbers of four bytes -/
def leN : List UInt8 → Nat
  | [] => 0
  | b :: r => b.toNat + 256 * leN r
theorem leN_lt : ∀ (l : List UInt8), leN l < 256 ^ l.length
  | [] => by simp [leN]
  | b :: r => by
    have := leN_lt r
    have hb := b.toNat_lt
    simp only [leN, List.length_cons, Nat.pow_succ]
    omega
theorem leN_snoc : ∀ (l : List UInt8) (b : UInt8), leN (l ++ [b]) = leN l + b.toNat * 256 ^ l.length
  | [], b => by simp [leN]
  | a :: l, b => by
    simp only [List.cons_append, leN, List.length_cons, leN_snoc l b, Nat.pow_succ]
    rw [Nat.mul_add, Nat.add_assoc, ← Nat.mul_assoc, ← Nat.mul_assoc, Nat.mul_comm 256 (b.toNat), Nat.mul_assoc b.toNat, Nat.mul_assoc b.toNat, Nat.mul_comm 256 (256 ^ l.length)]
theorem or256 (m b i : Nat) (h : m < 256 ^ i) : m ||| b * 2 ^ (8 * i) = m + b * 256 ^ i := by
  have e : (256 : Nat) ^ i = 2 ^ (8 * i) := by rw [Nat.pow_mul]
  rw [e] at h ⊢
  rw [Nat.or_comm, Nat.mul_comm, ← Nat.two_pow_add_eq_or_of_lt h, Nat.add_comm]
def fourN (u : UInt32) : List UInt8 := [u.toUInt8, (u / 256).toUInt8, (u / 65536).toUInt8, (u / 16777216).toUInt8]
theorem leN_four (u : UInt32) : leN (fourN u) = u.toNat := by
  have := u.toNat_lt
  simp only [fourN, leN, UInt32.toNat_toUInt8, UInt32.toNat_div]
  simp
  omega
theorem ofInt8 (n : Int) : (UInt8.ofInt n).toNat = (n % 256).toNat := by
  simp [UInt8.ofInt, UInt8.toNat_ofNat']; omega
theorem ofInt32 (n : Int) : (UInt32.ofInt n).toNat = (n % 4294967296).toNat := by
  simp [UInt32.ofInt, UInt32.toNat_ofNat']; omega
theorem four_int (n : Int) : [UInt8.ofInt n, UInt8.ofInt (n / 2 ^ (8 : Int).toNat), UInt8.ofInt (n / 2 ^ (16 : Int).toNat), UInt8.ofInt (n / 2 ^ (24 : Int).toNat)] = fourN (UInt32.ofInt n) := by
  have h8 : (2 : Int) ^ (8 : Int).toNat = 256 := rfl
  have h16 : (2 : Int) ^ (16 : Int).toNat = 65536 := rfl
  have h24 : (2 : Int) ^ (24 : Int).toNat = 16777216 := rfl
  rw [h8, h16, h24]
  have hu := ofInt32 n
  simp only [fourN, List.cons.injEq, and_true]
  refine ⟨?_, ?_, ?_, ?_⟩ <;> apply UInt8.toNat_inj.1 <;> rw [ofInt8] <;> simp only [UInt32.toNat_toUInt8, UInt32.toNat_div, hu]
  · omega
  · simp; omega
  · simp; omega
  · simp; omega
theorem fourN_len (u : UInt32) : (fourN u).length = 4 := rfl
theorem fourN_num (n : Nat) (h : n < 4294967296) : leN (fourN (UInt32.ofInt (n : Int))) = n := by
  rw [leN_four, ofInt32]; omega
end Go.Sl
