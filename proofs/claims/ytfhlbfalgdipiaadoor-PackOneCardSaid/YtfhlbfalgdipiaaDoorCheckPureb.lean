/- Sums of rows of bytes go with one another; numbers of four bytes; sealed sectors. Plain Lean. -/
import Derived.Test.YtfhlbfalgdipiaaDoorCheckPure
set_option linter.unusedVariables false
namespace Go.Sl

theorem crcR_xor : ∀ (p q : List UInt8) (r r' : UInt32), p.length = q.length → crcR (r ^^^ r') (List.zipWith (· ^^^ ·) p q) = crcR r p ^^^ crcR r' q
  | [], [], r, r', _ => rfl
  | [], _ :: _, _, _, h => by simp at h
  | _ :: _, [], _, _, h => by simp at h
  | a :: p, b :: q, r, r', h => by
    have := crcR_xor p q (crcB r a) (crcB r' b) (by simpa using h)
    simp only [List.zipWith_cons_cons]
    show crcR (crcB (r ^^^ r') (a ^^^ b)) _ = crcR (crcB r a) p ^^^ crcR (crcB r' b) q
    rw [crcB_xor, this]
def xor3 (a b c : List UInt8) : List UInt8 := List.zipWith (· ^^^ ·) (List.zipWith (· ^^^ ·) a b) c
theorem not3 (x y z : UInt32) : ~~~(x ^^^ y ^^^ z) = ~~~x ^^^ ~~~y ^^^ ~~~z := by
  apply UInt32.toBitVec_inj.1
  apply BitVec.eq_of_getLsbD_eq
  intro i hi
  simp [hi]
theorem crc3 (a b c : List UInt8) (h1 : b.length = a.length) (h2 : c.length = a.length) : crcN (xor3 a b c) = crcN a ^^^ crcN b ^^^ crcN c := by
  unfold crcN xor3
  have e : (4294967295 : UInt32) = (4294967295 ^^^ 4294967295) ^^^ 4294967295 := by decide
  have h3 : crcR 4294967295 (List.zipWith (· ^^^ ·) (List.zipWith (· ^^^ ·) a b) c) = crcR 4294967295 a ^^^ crcR 4294967295 b ^^^ crcR 4294967295 c := by
    conv => lhs; rw [e]
    rw [crcR_xor _ _ _ _ (by simp [h1, h2]), crcR_xor _ _ _ _ h1.symm]
  rw [h3, not3]
theorem xor3_len (a b c : List UInt8) (h1 : b.length = a.length) (h2 : c.length = a.length) : (xor3 a b c).length = a.length := by simp [xor3, h1, h2]
theorem xor3_get {a b c : List UInt8} {i : Nat} {x y z : UInt8} (h1 : a[i]? = some x) (h2 : b[i]? = some y) (h3 : c[i]? = some z) : (xor3 a b c)[i]? = some (x ^^^ y ^^^ z) := by
  simp [xor3, List.getElem?_zipWith, h1, h2, h3]
theorem set_fill {α : Type} (D : List α) (z u : α) (i : Nat) (h : D[i]? = some u) : (D.take i ++ List.replicate (D.length - i) z).set i u = D.take (i + 1) ++ List.replicate (D.length - (i + 1)) z := by
  have hi : i < D.length := (List.getElem?_eq_some_iff.1 h).1
  have hl : (D.take i).length = i := by rw [List.length_take]; omega
  rw [List.set_append_right _ _ (by omega), hl, Nat.sub_self, show D.length - i = (D.length - (i + 1)) + 1 by omega, List.replicate_succ, List.set_cons_zero, List.take_add_one, h]
  simp

/-! numbers of four bytes -/
def leN : List UInt8 → Nat
  | [] => 0
  | b :: r => b.toNat + 256 * leN r
theorem leN_lt : ∀ (l : List UInt8), leN l < 256 ^ l.length
  | [] => by simp [leN]
  | b :: r => by
    have := leN_lt r
    have hb := b.toNat_lt
    simp only [leN, List.length_cons, Nat.pow_succ]
    omega
theorem leN_snoc : ∀ (l : List UInt8) (b : UInt8), leN (l ++ [b]) = leN l + b.toNat * 256 ^ l.length
  | [], b => by simp [leN]
  | a :: l, b => by
    simp only [List.cons_append, leN, List.length_cons, leN_snoc l b, Nat.pow_succ]
    rw [Nat.mul_add, Nat.add_assoc, ← Nat.mul_assoc, ← Nat.mul_assoc, Nat.mul_comm 256 (b.toNat), Nat.mul_assoc b.toNat, Nat.mul_assoc b.toNat, Nat.mul_comm 256 (256 ^ l.length)]
theorem or256 (m b i : Nat) (h : m < 256 ^ i) : m ||| b * 2 ^ (8 * i) = m + b * 256 ^ i := by
  have e : (256 : Nat) ^ i = 2 ^ (8 * i) := by rw [Nat.pow_mul]
  rw [e] at h ⊢
  rw [Nat.or_comm, Nat.mul_comm, ← Nat.two_pow_add_eq_or_of_lt h, Nat.add_comm]
def fourN (u : UInt32) : List UInt8 := [u.toUInt8, (u / 256).toUInt8, (u / 65536).toUInt8, (u / 16777216).toUInt8]
theorem leN_four (u : UInt32) : leN (fourN u) = u.toNat := by
  have := u.toNat_lt
  simp only [fourN, leN, UInt32.toNat_toUInt8, UInt32.toNat_div]
  simp
  omega
theorem ofInt8 (n : Int) : (UInt8.ofInt n).toNat = (n % 256).toNat := by
  simp [UInt8.ofInt, UInt8.toNat_ofNat']; omega
theorem ofInt32 (n : Int) : (UInt32.ofInt n).toNat = (n % 4294967296).toNat := by
  simp [UInt32.ofInt, UInt32.toNat_ofNat']; omega
theorem four_int (n : Int) : [UInt8.ofInt n, UInt8.ofInt (n / 2 ^ (8 : Int).toNat), UInt8.ofInt (n / 2 ^ (16 : Int).toNat), UInt8.ofInt (n / 2 ^ (24 : Int).toNat)] = fourN (UInt32.ofInt n) := by
  have h8 : (2 : Int) ^ (8 : Int).toNat = 256 := rfl
  have h16 : (2 : Int) ^ (16 : Int).toNat = 65536 := rfl
  have h24 : (2 : Int) ^ (24 : Int).toNat = 16777216 := rfl
  rw [h8, h16, h24]
  have hu := ofInt32 n
  simp only [fourN, List.cons.injEq, and_true]
  refine ⟨?_, ?_, ?_, ?_⟩ <;> apply UInt8.toNat_inj.1 <;> rw [ofInt8] <;> simp only [UInt32.toNat_toUInt8, UInt32.toNat_div, hu]
  · omega
  · simp; omega
  · simp; omega
  · simp; omega
theorem four_shr (u : UInt32) : [u.toUInt8, (UInt32.ofNat (u.toNat / 2 ^ (8 : Int).toNat)).toUInt8, (UInt32.ofNat (u.toNat / 2 ^ (16 : Int).toNat)).toUInt8, (UInt32.ofNat (u.toNat / 2 ^ (24 : Int).toNat)).toUInt8] = fourN u := by
  have h8 : 2 ^ (8 : Int).toNat = 256 := rfl
  have h16 : 2 ^ (16 : Int).toNat = 65536 := rfl
  have h24 : 2 ^ (24 : Int).toNat = 16777216 := rfl
  rw [h8, h16, h24]
  have := u.toNat_lt
  simp only [fourN, List.cons.injEq, true_and, and_true]
  refine ⟨?_, ?_, ?_⟩ <;> apply UInt8.toNat_inj.1 <;> simp only [UInt32.toNat_toUInt8, UInt32.toNat_div, UInt32.toNat_ofNat'] <;> simp <;> omega

theorem key_cons {α : Type} {l : List α} {i : Nat} {x : α} (h : l[i]? = some x) : l.drop i = x :: l.drop (i + 1) := by
  have hlt : i < l.length := (List.getElem?_eq_some_iff.1 h).1
  rw [List.drop_eq_getElem_cons hlt]
  congr 1
  exact (List.getElem?_eq_some_iff.1 h).2

/-! sectors -/
def padN (p : List UInt8) : List UInt8 := p.take 60 ++ List.replicate (60 - p.length) 0
theorem padN_len (p : List UInt8) : (padN p).length = 60 := by simp [padN]; omega
def sealN (p : List UInt8) : List UInt8 := padN p ++ fourN (crcN (padN p))
theorem sealN_len (p : List UInt8) : (sealN p).length = 64 := by simp [sealN, padN_len, fourN]
theorem sealN_take (p : List UInt8) : (sealN p).take 60 = padN p := by
  rw [sealN, List.take_append_of_le_length (by rw [padN_len]; omega), List.take_of_length_le (by rw [padN_len]; omega)]
theorem padN_padN (p : List UInt8) : padN (padN p) = padN p := by
  unfold padN
  have := padN_len p
  unfold padN at this
  rw [this, List.take_of_length_le (by omega)]; simp
theorem padN_take (p : List UInt8) (h : p.length ≤ 60) : padN (p.take 60) = padN p := by rw [List.take_of_length_le h]
def openN (l : List UInt8) : Bool := decide (l.length = 64 ∧ sealN (l.take 60) = l)
theorem openN_seal (p : List UInt8) : openN (sealN p) = true := by
  unfold openN
  apply decide_eq_true
  refine ⟨sealN_len p, ?_⟩
  rw [sealN_take]
  unfold sealN
  rw [padN_padN]
end Go.Sl
