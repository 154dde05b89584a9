/- The sum of bytes as a shift register: bit by bit, by fours, and what it does to sums of rows. Plain Lean. -/
import Derived.Test.YtfhlbfalgdipiaaDoorSl
set_option linter.unusedVariables false
namespace Go.Sl

/-- one turn of the register -/
def crcT (x : UInt32) : UInt32 := x >>> 1 ^^^ (if x &&& 1 = 1 then 2197175160 else 0)
def crcT4 (x : UInt32) : UInt32 := crcT (crcT (crcT (crcT x)))
def crcB (r : UInt32) (b : UInt8) : UInt32 := crcT4 (crcT4 (r ^^^ b.toUInt32))
def crcR (r : UInt32) (p : List UInt8) : UInt32 := p.foldl crcB r
def crcN (p : List UInt8) : UInt32 := ~~~(crcR 4294967295 p)

theorem and1_cases (x : UInt32) : x &&& 1 = 0 ∨ x &&& 1 = 1 := by
  have h : (x &&& 1).toNat = x.toNat % 2 := by
    rw [UInt32.toNat_and]; exact Nat.and_one_is_mod _
  rcases Nat.mod_two_eq_zero_or_one x.toNat with e | e
  · left; apply UInt32.toNat_inj.1; rw [h, e]; rfl
  · right; apply UInt32.toNat_inj.1; rw [h, e]; rfl
theorem shr_xor (x y : UInt32) : (x ^^^ y) >>> 1 = x >>> 1 ^^^ y >>> 1 := by
  apply UInt32.toBitVec_inj.1
  simp [BitVec.ushiftRight_xor_distrib]
theorem and_xor (x y c : UInt32) : (x ^^^ y) &&& c = (x &&& c) ^^^ (y &&& c) := by
  apply UInt32.toBitVec_inj.1
  apply BitVec.eq_of_getLsbD_eq
  intro i hi
  simp [Bool.and_xor_distrib_right]
theorem xor_swap (a b c d : UInt32) : (a ^^^ b) ^^^ (c ^^^ d) = (a ^^^ c) ^^^ (b ^^^ d) := by
  rw [UInt32.xor_assoc, UInt32.xor_assoc, ← UInt32.xor_assoc b c d, ← UInt32.xor_assoc c b d, UInt32.xor_comm b c]
theorem crcT_xor (x y : UInt32) : crcT (x ^^^ y) = crcT x ^^^ crcT y := by
  unfold crcT
  rw [shr_xor, and_xor]
  rcases and1_cases x with h | h <;> rcases and1_cases y with h2 | h2 <;> rw [h, h2]
  · simp
  · rw [xor_swap]; simp
  · rw [xor_swap]; simp
  · rw [xor_swap]; simp
theorem crcT4_xor (x y : UInt32) : crcT4 (x ^^^ y) = crcT4 x ^^^ crcT4 y := by simp only [crcT4, crcT_xor]
theorem crcB_xor (r r' : UInt32) (b b' : UInt8) : crcB (r ^^^ r') (b ^^^ b') = crcB r b ^^^ crcB r' b' := by
  unfold crcB
  rw [show (b ^^^ b').toUInt32 = b.toUInt32 ^^^ b'.toUInt32 by simp, xor_swap, crcT4_xor, crcT4_xor]

theorem and_nat (x : UInt32) (k : Nat) : (x &&& UInt32.ofNat (2 ^ k - 1)).toNat = x.toNat % 2 ^ k := by
  rw [UInt32.toNat_and, UInt32.toNat_ofNat']
  by_cases h : k ≤ 32
  · have h2 : 2 ^ k ≤ 2 ^ 32 := Nat.pow_le_pow_right (by omega) h
    have h3 : 0 < 2 ^ k := Nat.two_pow_pos k
    rw [Nat.mod_eq_of_lt (by omega : 2 ^ k - 1 < 2 ^ 32), Nat.and_two_pow_sub_one_eq_mod]
  · obtain ⟨m, rfl⟩ : ∃ m, k = 32 + m := ⟨k - 32, by omega⟩
    have hx := x.toNat_lt
    have h3 : 0 < 2 ^ m := Nat.two_pow_pos m
    rw [Nat.pow_add, show 2 ^ 32 * 2 ^ m - 1 = 2 ^ 32 * (2 ^ m - 1) + (2 ^ 32 - 1) by
      rw [Nat.mul_sub, Nat.mul_one]
      have : 2 ^ 32 ≤ 2 ^ 32 * 2 ^ m := Nat.le_mul_of_pos_right _ h3
      omega, Nat.mul_add_mod, Nat.mod_eq_of_lt (by omega : 2 ^ 32 - 1 < 2 ^ 32), Nat.and_two_pow_sub_one_eq_mod]
    rw [Nat.mod_eq_of_lt hx, Nat.mod_eq_of_lt]
    exact Nat.lt_of_lt_of_le hx (Nat.le_mul_of_pos_right _ h3)
theorem and15 (x : UInt32) : (x &&& 15).toNat = x.toNat % 16 := and_nat x 4
theorem and1 (x : UInt32) : (x &&& 1).toNat = x.toNat % 2 := and_nat x 1
/-- a register whose lowest bit is 0 is halved -/
theorem crcT_even (x : UInt32) (h : x.toNat % 2 = 0) : crcT x = x >>> 1 := by
  unfold crcT
  rw [if_neg]
  · simp
  · intro e; have := congrArg UInt32.toNat e; rw [and1, h] at this; simp at this
theorem shr1 (x : UInt32) : (x >>> 1).toNat = x.toNat / 2 := by rw [UInt32.toNat_shiftRight]; rfl
theorem shr4 (x : UInt32) : (x >>> 4).toNat = x.toNat / 16 := by rw [UInt32.toNat_shiftRight]; show x.toNat >>> 4 = _; rw [Nat.shiftRight_eq_div_pow]
theorem crcT4_low (x : UInt32) (h : x.toNat % 16 = 0) : crcT4 x = x >>> 4 := by
  have h1 : crcT x = x >>> 1 := crcT_even x (by omega)
  have e1 := shr1 x
  have h2 : crcT (x >>> 1) = x >>> 1 >>> 1 := crcT_even _ (by omega)
  have e2 := shr1 (x >>> 1)
  have h3 : crcT (x >>> 1 >>> 1) = x >>> 1 >>> 1 >>> 1 := crcT_even _ (by omega)
  have e3 := shr1 (x >>> 1 >>> 1)
  have h4 : crcT (x >>> 1 >>> 1 >>> 1) = x >>> 1 >>> 1 >>> 1 >>> 1 := crcT_even _ (by omega)
  have e4 := shr1 (x >>> 1 >>> 1 >>> 1)
  unfold crcT4
  rw [h1, h2, h3, h4]
  apply UInt32.toNat_inj.1
  rw [shr4]; omega
theorem xor_self_cancel (x y : UInt32) : x ^^^ (x ^^^ y) = y := by rw [← UInt32.xor_assoc]; simp
theorem split15 (y : UInt32) : ∃ z : UInt32, y = (y &&& 15) ^^^ z ∧ z.toNat % 16 = 0 ∧ z >>> 4 = y >>> 4 := by
  refine ⟨(y &&& 15) ^^^ y, (xor_self_cancel _ _).symm, ?_, ?_⟩
  · have h : ((y &&& 15) ^^^ y) &&& 15 = 0 := by
      rw [and_xor, UInt32.and_assoc]; simp
    have := congrArg UInt32.toNat h
    rw [and15] at this; exact this
  · have e : ∀ a b : UInt32, (a ^^^ b) >>> 4 = a >>> 4 ^^^ b >>> 4 := by
      intro a b; apply UInt32.toBitVec_inj.1; simp [BitVec.ushiftRight_xor_distrib]
    rw [e]
    have : (y &&& 15) >>> 4 = 0 := by apply UInt32.toNat_inj.1; rw [shr4, and15]; simp
    rw [this]; simp
theorem crcT4_split (y : UInt32) : crcT4 y = crcT4 (y &&& 15) ^^^ y >>> 4 := by
  obtain ⟨z, h1, h2, h3⟩ := split15 y
  have : crcT4 y = crcT4 ((y &&& 15) ^^^ z) := by rw [← h1]
  rw [this, crcT4_xor, crcT4_low z h2, h3]
theorem shr4_ofNat (r : UInt32) : UInt32.ofNat (r.toNat / 2 ^ (4 : Int).toNat) = r >>> 4 := by
  apply UInt32.toNat_inj.1
  have := r.toNat_lt
  rw [shr4, UInt32.toNat_ofNat']
  show r.toNat / 16 % 2 ^ 32 = _
  omega
/-- half a byte, by the table -/
theorem crc_nib (r x : UInt32) : crcT4 ((r ^^^ x) &&& 15) ^^^ UInt32.ofNat (r.toNat / 2 ^ (4 : Int).toNat) = crcT4 (r ^^^ (x &&& 15)) := by
  rw [shr4_ofNat, crcT4_split (r ^^^ (x &&& 15))]
  have e1 : (r ^^^ (x &&& 15)) &&& 15 = (r ^^^ x) &&& 15 := by rw [and_xor, and_xor, UInt32.and_assoc]; simp
  have e2 : (r ^^^ (x &&& 15)) >>> 4 = r >>> 4 := by
    apply UInt32.toBitVec_inj.1
    have : (x &&& 15) >>> 4 = 0 := by apply UInt32.toNat_inj.1; rw [shr4, and15]; simp
    have h2 := congrArg UInt32.toBitVec this
    simp only [UInt32.toBitVec_shiftRight, UInt32.toBitVec_xor] at h2 ⊢
    simp only [BitVec.ushiftRight_eq'] at h2 ⊢
    rw [BitVec.ushiftRight_xor_distrib, h2]; simp
  rw [e1, e2]
theorem u8_nib (b : UInt8) : (b.toUInt32 &&& (15 : UInt32)) ^^^ (((UInt8.ofNat (b.toNat / 2 ^ (4 : Int).toNat)).toUInt32 &&& (15 : UInt32)) <<< (4 : UInt32)) = b.toUInt32 := by
  have h : ∀ n < 256, ((UInt8.ofNat n).toUInt32 &&& (15 : UInt32)) ^^^ (((UInt8.ofNat ((UInt8.ofNat n).toNat / 2 ^ (4 : Int).toNat)).toUInt32 &&& (15 : UInt32)) <<< (4 : UInt32)) = (UInt8.ofNat n).toUInt32 := by decide +kernel
  have := h b.toNat b.toNat_lt
  simpa using this
theorem crcT4_up (x : UInt32) (h : x.toNat < 2 ^ 28) : crcT4 (x <<< 4) = x := by
  have e : (x <<< 4).toNat = x.toNat * 16 := by
    rw [UInt32.toNat_shiftLeft]
    show x.toNat <<< 4 % 2 ^ 32 = _
    rw [Nat.shiftLeft_eq]; omega
  rw [crcT4_low _ (by omega)]
  apply UInt32.toNat_inj.1
  rw [shr4, e]; omega
/-- a byte, by two halves -/
theorem crc_byte (r : UInt32) (b : UInt8) : crcT4 (crcT4 (r ^^^ (b.toUInt32 &&& 15)) ^^^ ((UInt8.ofNat (b.toNat / 2 ^ (4 : Int).toNat)).toUInt32 &&& 15)) = crcB r b := by
  unfold crcB
  congr 1
  have h := u8_nib b
  generalize hx : (UInt8.ofNat (b.toNat / 2 ^ (4 : Int).toNat)).toUInt32 &&& 15 = x at h ⊢
  have hxl : x.toNat < 16 := by rw [← hx, and15]; omega
  rw [← h, ← UInt32.xor_assoc, crcT4_xor _ (x <<< 4), crcT4_up x (by omega)]
  congr 2
  rw [h]

/-- bit by bit -/
def bitU (b : UInt8) (j : Nat) : UInt32 := UInt32.ofNat (b.toNat / 2 ^ j % 2)
def crcJ : Nat → UInt32 → UInt8 → UInt32
  | 0, r, _ => r
  | j + 1, r, b => crcT (crcJ j r b ^^^ bitU b j)
theorem crcJ_xor (b : UInt8) : ∀ (j : Nat) (r : UInt32), crcJ j r b = crcJ j r 0 ^^^ crcJ j 0 b
  | 0, r => by simp [crcJ]
  | j + 1, r => by
    have h0 : bitU 0 j = 0 := by simp [bitU]
    simp only [crcJ]
    rw [crcJ_xor b j r, h0, UInt32.xor_assoc, crcT_xor, show crcJ j r 0 ^^^ 0 = crcJ j r 0 by simp]
theorem crcJ_zero (r : UInt32) : crcJ 8 r 0 = crcT4 (crcT4 r) := by
  have h0 : ∀ j, bitU 0 j = 0 := by intro j; simp [bitU]
  simp [crcJ, h0, crcT4]
theorem crcJ_byte (r : UInt32) (b : UInt8) : crcJ 8 r b = crcB r b := by
  rw [crcJ_xor, crcJ_zero]
  unfold crcB
  rw [crcT4_xor, crcT4_xor]
  congr 1
  have h : ∀ n < 256, crcJ 8 0 (UInt8.ofNat n) = crcT4 (crcT4 (UInt8.ofNat n).toUInt32) := by decide +kernel
  have := h b.toNat b.toNat_lt
  simpa using this
theorem ref_step (r : UInt32) (one : UInt32) (h1 : one = 0 ∨ one = 1) : (if r % (2 : UInt32) = one then r / (2 : UInt32) else (r / (2 : UInt32)) ^^^ (2197175160 : UInt32)) = crcT (r ^^^ one) := by
  have e2 : r / (2 : UInt32) = r >>> (1 : UInt32) := by apply UInt32.toNat_inj.1; rw [shr1, UInt32.toNat_div]; rfl
  have e3 : r % (2 : UInt32) = r &&& (1 : UInt32) := by apply UInt32.toNat_inj.1; rw [and1, UInt32.toNat_mod]; rfl
  rw [e2, e3]
  unfold crcT
  rw [shr_xor, and_xor]
  have e0 : (1 : UInt32) >>> (1 : UInt32) = 0 := by decide
  rcases h1 with rfl | rfl <;> rcases and1_cases r with h | h <;> rw [h] <;> simp [e0]
theorem crcR_snoc (r : UInt32) (p : List UInt8) (b : UInt8) : crcR r (p ++ [b]) = crcB (crcR r p) b := by simp [crcR]
theorem crcR_append (r : UInt32) (p q : List UInt8) : crcR r (p ++ q) = crcR (crcR r p) q := by simp [crcR]

def tabU : List UInt32 := [0, 274646895, 549293790, 820201905, 1098587580, 1361435347, 1640403810, 1905808397, 2197175160, 2460548119, 2722870694, 2987750089, 3280807620, 3553878443, 3811616794, 4084100981]
def tabV : List Value := tabU.map w32
theorem tab_get (y : UInt32) : tabV[(y &&& 15).toNat]? = some (w32 (crcT4 (y &&& 15))) := by
  have h : ∀ k < 16, tabU[k]? = some (crcT4 (UInt32.ofNat k)) := by decide +kernel
  have hk : (y &&& 15).toNat < 16 := by rw [and15]; omega
  have := h _ hk
  rw [UInt32.ofNat_toNat] at this
  unfold tabV
  rw [List.getElem?_map, this]; rfl
theorem bit_val (b : UInt8) (j : Nat) (hj : j < 8) : (UInt8.ofNat (b.toNat / 2 ^ (j : Int).toNat)).toUInt32 % (2 : UInt32) = bitU b j := by
  apply UInt32.toNat_inj.1
  have hb := b.toNat_lt
  have hd : b.toNat / 2 ^ j ≤ b.toNat := Nat.div_le_self _ _
  rw [UInt32.toNat_mod, UInt8.toNat_toUInt32, UInt8.toNat_ofNat', Int.toNat_natCast]
  unfold bitU
  rw [UInt32.toNat_ofNat']
  show b.toNat / 2 ^ j % 2 ^ 8 % 2 = _
  omega
theorem bitU_cases (b : UInt8) (j : Nat) : bitU b j = 0 ∨ bitU b j = 1 := by
  unfold bitU
  rcases Nat.mod_two_eq_zero_or_one (b.toNat / 2 ^ j) with h | h <;> rw [h]
  · left; rfl
  · right; rfl
/-- the register behind i bits -/
def crcI (l : List UInt8) (i : Nat) : UInt32 := crcJ (i % 8) (crcR 4294967295 (l.take (i / 8))) (l.getD (i / 8) 0)
theorem crcI_succ (l : List UInt8) (i : Nat) (b : UInt8) (hb : l[i / 8]? = some b) : crcI l (i + 1) = crcT (crcI l i ^^^ bitU b (i % 8)) := by
  have hg : l.getD (i / 8) 0 = b := by simp [List.getD_eq_getElem?_getD, hb]
  unfold crcI
  rw [hg]
  by_cases h : i % 8 = 7
  · have h1 : (i + 1) % 8 = 0 := by omega
    have h2 : (i + 1) / 8 = i / 8 + 1 := by omega
    rw [h1, h2, h]
    have ht : l.take (i / 8 + 1) = l.take (i / 8) ++ [b] := by rw [List.take_add_one, hb]; rfl
    rw [ht, crcR_snoc, ← crcJ_byte]
    rfl
  · have h1 : (i + 1) % 8 = i % 8 + 1 := by omega
    have h2 : (i + 1) / 8 = i / 8 := by omega
    rw [h1, h2, hg]
    rfl
theorem crcI_zero (l : List UInt8) : crcI l 0 = 4294967295 := by simp [crcI, crcJ, crcR]
theorem crcI_end (l : List UInt8) : crcI l (8 * l.length) = crcR 4294967295 l := by
  unfold crcI
  rw [show 8 * l.length % 8 = 0 by omega, show 8 * l.length / 8 = l.length by omega, List.take_length]
  rfl
theorem sub_all (x : UInt32) : (4294967295 : UInt32) - x = ~~~x := by
  apply UInt32.toBitVec_inj.1
  simp only [UInt32.toBitVec_sub, UInt32.toBitVec_not]
  show BitVec.allOnes 32 - x.toBitVec = ~~~x.toBitVec
  exact BitVec.allOnes_sub_eq_not x.toBitVec
end Go.Sl
