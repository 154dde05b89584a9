/- A small library for walks, part C: binary operations on integers, texts and truth values. No statement is proved here. -/
import Derived.Test.YtfhlbfalgdipiaaDoorSlB
import Derived.Lib.Strings
set_option linter.unusedVariables false
namespace Go.Sl

/-! ### Values of fixed kinds -/
def bv (x : UInt8) : Value := .int .u8 (x.toNat : Int)
def w16 (x : UInt16) : Value := .int .u16 (x.toNat : Int)
def w32 (x : UInt32) : Value := .int .u32 (x.toNat : Int)
def w64 (x : UInt64) : Value := .int .u64 (x.toNat : Int)
def bs (l : List UInt8) : List Value := l.map bv
/-- a text of these bytes -/
def sv (l : List UInt8) : Value := .string ⟨⟨l⟩⟩

theorem wrap_i64 (n : Int) (h1 : -9223372036854775808 ≤ n) (h2 : n ≤ 9223372036854775807) : IntKind.i64.wrap n = n := by
  simp only [IntKind.wrap, IntKind.signed, IntKind.bits]
  simp
  omega

/-- what a binary operation on two integers of one kind comes to -/
def BinR (op : BinOp) (k : IntKind) (x : Int) (k' : IntKind) (y : Int) (v : Value) : Prop := ∀ (P : Program) (t : TypeId) (w : World), (binOp op t (.int k x) (.int k' y)).run P w = .ok v w
namespace B

theorem wrap_u8 (n : Int) : IntKind.u8.wrap n = ((UInt8.ofInt n).toNat : Int) := by
  simp only [IntKind.wrap, IntKind.signed, IntKind.bits, Bool.false_and, Bool.false_eq_true, if_false]
  simp [UInt8.ofInt, UInt8.toNat_ofNat']
  omega
theorem ofInt_toNat_u8 (x : UInt8) : UInt8.ofInt (x.toNat : Int) = x := by
  apply UInt8.toNat_inj.1
  have h := wrap_u8 (x.toNat : Int)
  have hx : x.toNat < 2 ^ 8 := x.toNat_lt
  simp only [IntKind.wrap, IntKind.signed, IntKind.bits, Bool.false_and, Bool.false_eq_true, if_false] at h
  simp at h
  omega
theorem back_u8 (x : UInt8) : IntKind.u8.wrap (x.toNat : Int) = (x.toNat : Int) := by rw [wrap_u8, ofInt_toNat_u8]
theorem bits_u8 (x : UInt8) : BitVec.ofInt IntKind.u8.bits (x.toNat : Int) = x.toBitVec := by
  apply BitVec.eq_of_toNat_eq
  have hx : x.toNat < 2 ^ 8 := x.toNat_lt
  have : x.toBitVec.toNat = x.toNat := rfl
  simp [IntKind.bits]
theorem add_u8 {x y : UInt8} : BinR .add .u8 x.toNat .u8 y.toNat (bv (x + y)) := by
  intro P t w
  have e : IntKind.u8.wrap ((x.toNat : Int) + y.toNat) = ((x + y).toNat : Int) := by
    rw [UInt8.toNat_add]
    simp only [IntKind.wrap, IntKind.signed, IntKind.bits, Bool.false_and, Bool.false_eq_true, if_false]
    omega
  simp [binOp, Op.intArith, bv, e]
theorem sub_u8 {x y : UInt8} : BinR .sub .u8 x.toNat .u8 y.toNat (bv (x - y)) := by
  intro P t w
  have hy : y.toNat < 2 ^ 8 := y.toNat_lt
  have e : IntKind.u8.wrap ((x.toNat : Int) - y.toNat) = ((x - y).toNat : Int) := by
    rw [UInt8.toNat_sub]
    simp only [IntKind.wrap, IntKind.signed, IntKind.bits, Bool.false_and, Bool.false_eq_true, if_false]
    omega
  simp [binOp, Op.intArith, bv, e]
theorem mul_u8 {x y : UInt8} : BinR .mul .u8 x.toNat .u8 y.toNat (bv (x * y)) := by
  intro P t w
  have e : IntKind.u8.wrap ((x.toNat : Int) * y.toNat) = ((x * y).toNat : Int) := by
    rw [UInt8.toNat_mul]
    simp only [IntKind.wrap, IntKind.signed, IntKind.bits, Bool.false_and, Bool.false_eq_true, if_false]
    rw [← Int.natCast_mul]
    omega
  simp [binOp, Op.intArith, bv, e]
theorem and_u8 {x y : UInt8} : BinR .and .u8 x.toNat .u8 y.toNat (bv (x &&& y)) := by
  intro P t w
  have e : IntKind.u8.wrap (((x.toBitVec &&& y.toBitVec).toNat : Nat) : Int) = ((x &&& y).toNat : Int) := back_u8 (x &&& y)
  simp only [binOp, Op.intBits, bits_u8, ne_eq, not_true_eq_false, if_false, Sem.run_pure, bv]
  exact congrArg (fun z => Result.ok (Value.int .u8 z) w) e
theorem or_u8 {x y : UInt8} : BinR .or .u8 x.toNat .u8 y.toNat (bv (x ||| y)) := by
  intro P t w
  have e : IntKind.u8.wrap (((x.toBitVec ||| y.toBitVec).toNat : Nat) : Int) = ((x ||| y).toNat : Int) := back_u8 (x ||| y)
  simp only [binOp, Op.intBits, bits_u8, ne_eq, not_true_eq_false, if_false, Sem.run_pure, bv]
  exact congrArg (fun z => Result.ok (Value.int .u8 z) w) e
theorem xor_u8 {x y : UInt8} : BinR .xor .u8 x.toNat .u8 y.toNat (bv (x ^^^ y)) := by
  intro P t w
  have e : IntKind.u8.wrap (((x.toBitVec ^^^ y.toBitVec).toNat : Nat) : Int) = ((x ^^^ y).toNat : Int) := back_u8 (x ^^^ y)
  simp only [binOp, Op.intBits, bits_u8, ne_eq, not_true_eq_false, if_false, Sem.run_pure, bv]
  exact congrArg (fun z => Result.ok (Value.int .u8 z) w) e
/-- shifts by a count that is not below 0 -/
theorem shl_u8 {x : UInt8} {k' : IntKind} {c : Int} (hc : 0 ≤ c) : BinR .shl .u8 x.toNat k' c (bv (UInt8.ofNat (x.toNat * 2 ^ c.toNat))) := by
  intro P t w
  have hn : ¬ c < 0 := by omega
  have e : IntKind.u8.wrap ((x.toNat : Int) * 2 ^ (min c.toNat 8)) = ((UInt8.ofNat (x.toNat * 2 ^ c.toNat)).toNat : Int) := by
    simp only [IntKind.wrap, IntKind.signed, IntKind.bits, Bool.false_and, Bool.false_eq_true, if_false, UInt8.toNat_ofNat']
    by_cases h : c.toNat ≤ 8
    · rw [Nat.min_eq_left h]
      have : ((x.toNat : Int) * 2 ^ c.toNat) = ((x.toNat * 2 ^ c.toNat : Nat) : Int) := by push_cast; rfl
      rw [this]
      omega
    · rw [Nat.min_eq_right (by omega)]
      obtain ⟨d, hd⟩ : ∃ d, c.toNat = 8 + d := ⟨c.toNat - 8, by omega⟩
      rw [hd, Nat.pow_add, Nat.mul_comm (2 ^ 8), ← Nat.mul_assoc, Nat.mul_mod_left]
      simp
  simp only [binOp, Op.shift, hn, if_false, IntKind.bits, Sem.run_pure, bv]
  exact congrArg (fun z => Result.ok (Value.int .u8 z) w) e
theorem shr_u8 {x : UInt8} {k' : IntKind} {c : Int} (hc : 0 ≤ c) : BinR .shr .u8 x.toNat k' c (bv (UInt8.ofNat (x.toNat / 2 ^ c.toNat))) := by
  intro P t w
  have hn : ¬ c < 0 := by omega
  have hx : x.toNat < 2 ^ 8 := x.toNat_lt
  have e : ((x.toNat : Int)).fdiv (2 ^ (min c.toNat 8)) = ((UInt8.ofNat (x.toNat / 2 ^ c.toNat)).toNat : Int) := by
    simp only [UInt8.toNat_ofNat']
    have h2 : ((2 : Int) ^ (min c.toNat 8)) = ((2 ^ (min c.toNat 8) : Nat) : Int) := by push_cast; rfl
    rw [h2, Int.fdiv_eq_ediv_of_nonneg _ (Int.natCast_nonneg _), ← Int.natCast_ediv]
    congr 1
    by_cases h : c.toNat ≤ 8
    · rw [Nat.min_eq_left h, Nat.mod_eq_of_lt]
      exact Nat.lt_of_le_of_lt (Nat.div_le_self _ _) hx
    · rw [Nat.min_eq_right (by omega), Nat.div_eq_of_lt hx, Nat.div_eq_of_lt (Nat.lt_of_lt_of_le hx (Nat.pow_le_pow_right (by omega) (by omega)))]
  simp only [binOp, Op.shift, hn, if_false, IntKind.bits, Sem.run_pure, bv]
  exact congrArg (fun z => Result.ok (Value.int .u8 z) w) e
theorem quo_u8 {x y : UInt8} (h : y ≠ 0) : BinR .quo .u8 x.toNat .u8 y.toNat (bv (x / y)) := by
  intro P t w
  have hy : y.toNat ≠ 0 := fun e => h (UInt8.toNat_inj.1 (by simpa using e))
  have hy' : ¬ ((y.toNat : Int) = 0) := by omega
  have e : IntKind.u8.wrap ((x.toNat : Int).tdiv y.toNat) = ((x / y).toNat : Int) := by
    rw [Int.tdiv_eq_ediv_of_nonneg (by omega), ← Int.natCast_ediv, ← UInt8.toNat_div]
    exact back_u8 (x / y)
  simp only [binOp, Op.intDiv, hy', ne_eq, not_true_eq_false, if_false, Sem.run_pure, bv]
  exact congrArg (fun z => Result.ok (Value.int .u8 z) w) e
theorem rem_u8 {x y : UInt8} (h : y ≠ 0) : BinR .rem .u8 x.toNat .u8 y.toNat (bv (x % y)) := by
  intro P t w
  have hy : y.toNat ≠ 0 := fun e => h (UInt8.toNat_inj.1 (by simpa using e))
  have hy' : ¬ ((y.toNat : Int) = 0) := by omega
  have e : ((x.toNat : Int).tmod y.toNat) = ((x % y).toNat : Int) := by
    rw [Int.tmod_eq_emod_of_nonneg (by omega), UInt8.toNat_mod]; rfl
  simp only [binOp, Op.intDiv, hy', ne_eq, not_true_eq_false, if_false, Sem.run_pure, bv]
  exact congrArg (fun z => Result.ok (Value.int .u8 z) w) e
theorem eql_u8 {x y : UInt8} : BinR .eql .u8 x.toNat .u8 y.toNat (.bool (decide (x = y))) := by
  intro P t w
  have e : ((x.toNat : Int) == (y.toNat : Int)) = decide (x = y) := by
    rw [Bool.eq_iff_iff]; simp only [beq_iff_eq, decide_eq_true_eq]
    exact ⟨fun h => UInt8.toNat_inj.1 (by omega), fun h => by rw [h]⟩
  simp only [binOp, Op.intCmp, ne_eq, not_true_eq_false, if_false, Sem.run_pure, e]
theorem neq_u8 {x y : UInt8} : BinR .neq .u8 x.toNat .u8 y.toNat (.bool (decide (x ≠ y))) := by
  intro P t w
  have e : ((x.toNat : Int) != (y.toNat : Int)) = decide (x ≠ y) := by
    rw [Bool.eq_iff_iff]; simp only [bne_iff_ne, decide_eq_true_eq, ne_eq]
    exact ⟨fun h e => h (by rw [e]), fun h e => h (UInt8.toNat_inj.1 (by omega))⟩
  simp only [binOp, Op.intCmp, ne_eq, not_true_eq_false, if_false, Sem.run_pure, e]
theorem lss_u8 {x y : UInt8} : BinR .lss .u8 x.toNat .u8 y.toNat (.bool (decide (x < y))) := by
  intro P t w
  have e : ((x.toNat : Int) < (y.toNat : Int)) = (x < y) := by rw [UInt8.lt_iff_toNat_lt]; simp
  simp only [binOp, Op.intCmp, ne_eq, not_true_eq_false, if_false, Sem.run_pure, e]
theorem leq_u8 {x y : UInt8} : BinR .leq .u8 x.toNat .u8 y.toNat (.bool (decide (x ≤ y))) := by
  intro P t w
  have e : ((x.toNat : Int) ≤ (y.toNat : Int)) = (x ≤ y) := by rw [UInt8.le_iff_toNat_le]; simp
  simp only [binOp, Op.intCmp, ne_eq, not_true_eq_false, if_false, Sem.run_pure, e]
theorem gtr_u8 {x y : UInt8} : BinR .gtr .u8 x.toNat .u8 y.toNat (.bool (decide (y < x))) := by
  intro P t w
  have e : ((x.toNat : Int) > (y.toNat : Int)) = (y < x) := by rw [UInt8.lt_iff_toNat_lt]; simp
  simp only [binOp, Op.intCmp, ne_eq, not_true_eq_false, if_false, Sem.run_pure, e]
theorem geq_u8 {x y : UInt8} : BinR .geq .u8 x.toNat .u8 y.toNat (.bool (decide (y ≤ x))) := by
  intro P t w
  have e : ((x.toNat : Int) ≥ (y.toNat : Int)) = (y ≤ x) := by rw [UInt8.le_iff_toNat_le]; simp
  simp only [binOp, Op.intCmp, ne_eq, not_true_eq_false, if_false, Sem.run_pure, e]

theorem wrap_u16 (n : Int) : IntKind.u16.wrap n = ((UInt16.ofInt n).toNat : Int) := by
  simp only [IntKind.wrap, IntKind.signed, IntKind.bits, Bool.false_and, Bool.false_eq_true, if_false]
  simp [UInt16.ofInt, UInt16.toNat_ofNat']
  omega
theorem ofInt_toNat_u16 (x : UInt16) : UInt16.ofInt (x.toNat : Int) = x := by
  apply UInt16.toNat_inj.1
  have h := wrap_u16 (x.toNat : Int)
  have hx : x.toNat < 2 ^ 16 := x.toNat_lt
  simp only [IntKind.wrap, IntKind.signed, IntKind.bits, Bool.false_and, Bool.false_eq_true, if_false] at h
  simp at h
  omega
theorem back_u16 (x : UInt16) : IntKind.u16.wrap (x.toNat : Int) = (x.toNat : Int) := by rw [wrap_u16, ofInt_toNat_u16]
theorem bits_u16 (x : UInt16) : BitVec.ofInt IntKind.u16.bits (x.toNat : Int) = x.toBitVec := by
  apply BitVec.eq_of_toNat_eq
  have hx : x.toNat < 2 ^ 16 := x.toNat_lt
  have : x.toBitVec.toNat = x.toNat := rfl
  simp [IntKind.bits]
theorem add_u16 {x y : UInt16} : BinR .add .u16 x.toNat .u16 y.toNat (w16 (x + y)) := by
  intro P t w
  have e : IntKind.u16.wrap ((x.toNat : Int) + y.toNat) = ((x + y).toNat : Int) := by
    rw [UInt16.toNat_add]
    simp only [IntKind.wrap, IntKind.signed, IntKind.bits, Bool.false_and, Bool.false_eq_true, if_false]
    omega
  simp [binOp, Op.intArith, w16, e]
theorem sub_u16 {x y : UInt16} : BinR .sub .u16 x.toNat .u16 y.toNat (w16 (x - y)) := by
  intro P t w
  have hy : y.toNat < 2 ^ 16 := y.toNat_lt
  have e : IntKind.u16.wrap ((x.toNat : Int) - y.toNat) = ((x - y).toNat : Int) := by
    rw [UInt16.toNat_sub]
    simp only [IntKind.wrap, IntKind.signed, IntKind.bits, Bool.false_and, Bool.false_eq_true, if_false]
    omega
  simp [binOp, Op.intArith, w16, e]
theorem mul_u16 {x y : UInt16} : BinR .mul .u16 x.toNat .u16 y.toNat (w16 (x * y)) := by
  intro P t w
  have e : IntKind.u16.wrap ((x.toNat : Int) * y.toNat) = ((x * y).toNat : Int) := by
    rw [UInt16.toNat_mul]
    simp only [IntKind.wrap, IntKind.signed, IntKind.bits, Bool.false_and, Bool.false_eq_true, if_false]
    rw [← Int.natCast_mul]
    omega
  simp [binOp, Op.intArith, w16, e]
theorem and_u16 {x y : UInt16} : BinR .and .u16 x.toNat .u16 y.toNat (w16 (x &&& y)) := by
  intro P t w
  have e : IntKind.u16.wrap (((x.toBitVec &&& y.toBitVec).toNat : Nat) : Int) = ((x &&& y).toNat : Int) := back_u16 (x &&& y)
  simp only [binOp, Op.intBits, bits_u16, ne_eq, not_true_eq_false, if_false, Sem.run_pure, w16]
  exact congrArg (fun z => Result.ok (Value.int .u16 z) w) e
theorem or_u16 {x y : UInt16} : BinR .or .u16 x.toNat .u16 y.toNat (w16 (x ||| y)) := by
  intro P t w
  have e : IntKind.u16.wrap (((x.toBitVec ||| y.toBitVec).toNat : Nat) : Int) = ((x ||| y).toNat : Int) := back_u16 (x ||| y)
  simp only [binOp, Op.intBits, bits_u16, ne_eq, not_true_eq_false, if_false, Sem.run_pure, w16]
  exact congrArg (fun z => Result.ok (Value.int .u16 z) w) e
theorem xor_u16 {x y : UInt16} : BinR .xor .u16 x.toNat .u16 y.toNat (w16 (x ^^^ y)) := by
  intro P t w
  have e : IntKind.u16.wrap (((x.toBitVec ^^^ y.toBitVec).toNat : Nat) : Int) = ((x ^^^ y).toNat : Int) := back_u16 (x ^^^ y)
  simp only [binOp, Op.intBits, bits_u16, ne_eq, not_true_eq_false, if_false, Sem.run_pure, w16]
  exact congrArg (fun z => Result.ok (Value.int .u16 z) w) e
/-- shifts by a count that is not below 0 -/
theorem shl_u16 {x : UInt16} {k' : IntKind} {c : Int} (hc : 0 ≤ c) : BinR .shl .u16 x.toNat k' c (w16 (UInt16.ofNat (x.toNat * 2 ^ c.toNat))) := by
  intro P t w
  have hn : ¬ c < 0 := by omega
  have e : IntKind.u16.wrap ((x.toNat : Int) * 2 ^ (min c.toNat 16)) = ((UInt16.ofNat (x.toNat * 2 ^ c.toNat)).toNat : Int) := by
    simp only [IntKind.wrap, IntKind.signed, IntKind.bits, Bool.false_and, Bool.false_eq_true, if_false, UInt16.toNat_ofNat']
    by_cases h : c.toNat ≤ 16
    · rw [Nat.min_eq_left h]
      have : ((x.toNat : Int) * 2 ^ c.toNat) = ((x.toNat * 2 ^ c.toNat : Nat) : Int) := by push_cast; rfl
      rw [this]
      omega
    · rw [Nat.min_eq_right (by omega)]
      obtain ⟨d, hd⟩ : ∃ d, c.toNat = 16 + d := ⟨c.toNat - 16, by omega⟩
      rw [hd, Nat.pow_add, Nat.mul_comm (2 ^ 16), ← Nat.mul_assoc, Nat.mul_mod_left]
      simp
  simp only [binOp, Op.shift, hn, if_false, IntKind.bits, Sem.run_pure, w16]
  exact congrArg (fun z => Result.ok (Value.int .u16 z) w) e
theorem shr_u16 {x : UInt16} {k' : IntKind} {c : Int} (hc : 0 ≤ c) : BinR .shr .u16 x.toNat k' c (w16 (UInt16.ofNat (x.toNat / 2 ^ c.toNat))) := by
  intro P t w
  have hn : ¬ c < 0 := by omega
  have hx : x.toNat < 2 ^ 16 := x.toNat_lt
  have e : ((x.toNat : Int)).fdiv (2 ^ (min c.toNat 16)) = ((UInt16.ofNat (x.toNat / 2 ^ c.toNat)).toNat : Int) := by
    simp only [UInt16.toNat_ofNat']
    have h2 : ((2 : Int) ^ (min c.toNat 16)) = ((2 ^ (min c.toNat 16) : Nat) : Int) := by push_cast; rfl
    rw [h2, Int.fdiv_eq_ediv_of_nonneg _ (Int.natCast_nonneg _), ← Int.natCast_ediv]
    congr 1
    by_cases h : c.toNat ≤ 16
    · rw [Nat.min_eq_left h, Nat.mod_eq_of_lt]
      exact Nat.lt_of_le_of_lt (Nat.div_le_self _ _) hx
    · rw [Nat.min_eq_right (by omega), Nat.div_eq_of_lt hx, Nat.div_eq_of_lt (Nat.lt_of_lt_of_le hx (Nat.pow_le_pow_right (by omega) (by omega)))]
  simp only [binOp, Op.shift, hn, if_false, IntKind.bits, Sem.run_pure, w16]
  exact congrArg (fun z => Result.ok (Value.int .u16 z) w) e
theorem quo_u16 {x y : UInt16} (h : y ≠ 0) : BinR .quo .u16 x.toNat .u16 y.toNat (w16 (x / y)) := by
  intro P t w
  have hy : y.toNat ≠ 0 := fun e => h (UInt16.toNat_inj.1 (by simpa using e))
  have hy' : ¬ ((y.toNat : Int) = 0) := by omega
  have e : IntKind.u16.wrap ((x.toNat : Int).tdiv y.toNat) = ((x / y).toNat : Int) := by
    rw [Int.tdiv_eq_ediv_of_nonneg (by omega), ← Int.natCast_ediv, ← UInt16.toNat_div]
    exact back_u16 (x / y)
  simp only [binOp, Op.intDiv, hy', ne_eq, not_true_eq_false, if_false, Sem.run_pure, w16]
  exact congrArg (fun z => Result.ok (Value.int .u16 z) w) e
theorem rem_u16 {x y : UInt16} (h : y ≠ 0) : BinR .rem .u16 x.toNat .u16 y.toNat (w16 (x % y)) := by
  intro P t w
  have hy : y.toNat ≠ 0 := fun e => h (UInt16.toNat_inj.1 (by simpa using e))
  have hy' : ¬ ((y.toNat : Int) = 0) := by omega
  have e : ((x.toNat : Int).tmod y.toNat) = ((x % y).toNat : Int) := by
    rw [Int.tmod_eq_emod_of_nonneg (by omega), UInt16.toNat_mod]; rfl
  simp only [binOp, Op.intDiv, hy', ne_eq, not_true_eq_false, if_false, Sem.run_pure, w16]
  exact congrArg (fun z => Result.ok (Value.int .u16 z) w) e
theorem eql_u16 {x y : UInt16} : BinR .eql .u16 x.toNat .u16 y.toNat (.bool (decide (x = y))) := by
  intro P t w
  have e : ((x.toNat : Int) == (y.toNat : Int)) = decide (x = y) := by
    rw [Bool.eq_iff_iff]; simp only [beq_iff_eq, decide_eq_true_eq]
    exact ⟨fun h => UInt16.toNat_inj.1 (by omega), fun h => by rw [h]⟩
  simp only [binOp, Op.intCmp, ne_eq, not_true_eq_false, if_false, Sem.run_pure, e]
theorem neq_u16 {x y : UInt16} : BinR .neq .u16 x.toNat .u16 y.toNat (.bool (decide (x ≠ y))) := by
  intro P t w
  have e : ((x.toNat : Int) != (y.toNat : Int)) = decide (x ≠ y) := by
    rw [Bool.eq_iff_iff]; simp only [bne_iff_ne, decide_eq_true_eq, ne_eq]
    exact ⟨fun h e => h (by rw [e]), fun h e => h (UInt16.toNat_inj.1 (by omega))⟩
  simp only [binOp, Op.intCmp, ne_eq, not_true_eq_false, if_false, Sem.run_pure, e]
theorem lss_u16 {x y : UInt16} : BinR .lss .u16 x.toNat .u16 y.toNat (.bool (decide (x < y))) := by
  intro P t w
  have e : ((x.toNat : Int) < (y.toNat : Int)) = (x < y) := by rw [UInt16.lt_iff_toNat_lt]; simp
  simp only [binOp, Op.intCmp, ne_eq, not_true_eq_false, if_false, Sem.run_pure, e]
theorem leq_u16 {x y : UInt16} : BinR .leq .u16 x.toNat .u16 y.toNat (.bool (decide (x ≤ y))) := by
  intro P t w
  have e : ((x.toNat : Int) ≤ (y.toNat : Int)) = (x ≤ y) := by rw [UInt16.le_iff_toNat_le]; simp
  simp only [binOp, Op.intCmp, ne_eq, not_true_eq_false, if_false, Sem.run_pure, e]
theorem gtr_u16 {x y : UInt16} : BinR .gtr .u16 x.toNat .u16 y.toNat (.bool (decide (y < x))) := by
  intro P t w
  have e : ((x.toNat : Int) > (y.toNat : Int)) = (y < x) := by rw [UInt16.lt_iff_toNat_lt]; simp
  simp only [binOp, Op.intCmp, ne_eq, not_true_eq_false, if_false, Sem.run_pure, e]
theorem geq_u16 {x y : UInt16} : BinR .geq .u16 x.toNat .u16 y.toNat (.bool (decide (y ≤ x))) := by
  intro P t w
  have e : ((x.toNat : Int) ≥ (y.toNat : Int)) = (y ≤ x) := by rw [UInt16.le_iff_toNat_le]; simp
  simp only [binOp, Op.intCmp, ne_eq, not_true_eq_false, if_false, Sem.run_pure, e]

theorem wrap_u32 (n : Int) : IntKind.u32.wrap n = ((UInt32.ofInt n).toNat : Int) := by
  simp only [IntKind.wrap, IntKind.signed, IntKind.bits, Bool.false_and, Bool.false_eq_true, if_false]
  simp [UInt32.ofInt, UInt32.toNat_ofNat']
  omega
theorem ofInt_toNat_u32 (x : UInt32) : UInt32.ofInt (x.toNat : Int) = x := by
  apply UInt32.toNat_inj.1
  have h := wrap_u32 (x.toNat : Int)
  have hx : x.toNat < 2 ^ 32 := x.toNat_lt
  simp only [IntKind.wrap, IntKind.signed, IntKind.bits, Bool.false_and, Bool.false_eq_true, if_false] at h
  simp at h
  omega
theorem back_u32 (x : UInt32) : IntKind.u32.wrap (x.toNat : Int) = (x.toNat : Int) := by rw [wrap_u32, ofInt_toNat_u32]
theorem bits_u32 (x : UInt32) : BitVec.ofInt IntKind.u32.bits (x.toNat : Int) = x.toBitVec := by
  apply BitVec.eq_of_toNat_eq
  have hx : x.toNat < 2 ^ 32 := x.toNat_lt
  have : x.toBitVec.toNat = x.toNat := rfl
  simp [IntKind.bits]
theorem add_u32 {x y : UInt32} : BinR .add .u32 x.toNat .u32 y.toNat (w32 (x + y)) := by
  intro P t w
  have e : IntKind.u32.wrap ((x.toNat : Int) + y.toNat) = ((x + y).toNat : Int) := by
    rw [UInt32.toNat_add]
    simp only [IntKind.wrap, IntKind.signed, IntKind.bits, Bool.false_and, Bool.false_eq_true, if_false]
    omega
  simp [binOp, Op.intArith, w32, e]
theorem sub_u32 {x y : UInt32} : BinR .sub .u32 x.toNat .u32 y.toNat (w32 (x - y)) := by
  intro P t w
  have hy : y.toNat < 2 ^ 32 := y.toNat_lt
  have e : IntKind.u32.wrap ((x.toNat : Int) - y.toNat) = ((x - y).toNat : Int) := by
    rw [UInt32.toNat_sub]
    simp only [IntKind.wrap, IntKind.signed, IntKind.bits, Bool.false_and, Bool.false_eq_true, if_false]
    omega
  simp [binOp, Op.intArith, w32, e]
theorem mul_u32 {x y : UInt32} : BinR .mul .u32 x.toNat .u32 y.toNat (w32 (x * y)) := by
  intro P t w
  have e : IntKind.u32.wrap ((x.toNat : Int) * y.toNat) = ((x * y).toNat : Int) := by
    rw [UInt32.toNat_mul]
    simp only [IntKind.wrap, IntKind.signed, IntKind.bits, Bool.false_and, Bool.false_eq_true, if_false]
    rw [← Int.natCast_mul]
    omega
  simp [binOp, Op.intArith, w32, e]
theorem and_u32 {x y : UInt32} : BinR .and .u32 x.toNat .u32 y.toNat (w32 (x &&& y)) := by
  intro P t w
  have e : IntKind.u32.wrap (((x.toBitVec &&& y.toBitVec).toNat : Nat) : Int) = ((x &&& y).toNat : Int) := back_u32 (x &&& y)
  simp only [binOp, Op.intBits, bits_u32, ne_eq, not_true_eq_false, if_false, Sem.run_pure, w32]
  exact congrArg (fun z => Result.ok (Value.int .u32 z) w) e
theorem or_u32 {x y : UInt32} : BinR .or .u32 x.toNat .u32 y.toNat (w32 (x ||| y)) := by
  intro P t w
  have e : IntKind.u32.wrap (((x.toBitVec ||| y.toBitVec).toNat : Nat) : Int) = ((x ||| y).toNat : Int) := back_u32 (x ||| y)
  simp only [binOp, Op.intBits, bits_u32, ne_eq, not_true_eq_false, if_false, Sem.run_pure, w32]
  exact congrArg (fun z => Result.ok (Value.int .u32 z) w) e
theorem xor_u32 {x y : UInt32} : BinR .xor .u32 x.toNat .u32 y.toNat (w32 (x ^^^ y)) := by
  intro P t w
  have e : IntKind.u32.wrap (((x.toBitVec ^^^ y.toBitVec).toNat : Nat) : Int) = ((x ^^^ y).toNat : Int) := back_u32 (x ^^^ y)
  simp only [binOp, Op.intBits, bits_u32, ne_eq, not_true_eq_false, if_false, Sem.run_pure, w32]
  exact congrArg (fun z => Result.ok (Value.int .u32 z) w) e
/-- shifts by a count that is not below 0 -/
theorem shl_u32 {x : UInt32} {k' : IntKind} {c : Int} (hc : 0 ≤ c) : BinR .shl .u32 x.toNat k' c (w32 (UInt32.ofNat (x.toNat * 2 ^ c.toNat))) := by
  intro P t w
  have hn : ¬ c < 0 := by omega
  have e : IntKind.u32.wrap ((x.toNat : Int) * 2 ^ (min c.toNat 32)) = ((UInt32.ofNat (x.toNat * 2 ^ c.toNat)).toNat : Int) := by
    simp only [IntKind.wrap, IntKind.signed, IntKind.bits, Bool.false_and, Bool.false_eq_true, if_false, UInt32.toNat_ofNat']
    by_cases h : c.toNat ≤ 32
    · rw [Nat.min_eq_left h]
      have : ((x.toNat : Int) * 2 ^ c.toNat) = ((x.toNat * 2 ^ c.toNat : Nat) : Int) := by push_cast; rfl
      rw [this]
      omega
    · rw [Nat.min_eq_right (by omega)]
      obtain ⟨d, hd⟩ : ∃ d, c.toNat = 32 + d := ⟨c.toNat - 32, by omega⟩
      rw [hd, Nat.pow_add, Nat.mul_comm (2 ^ 32), ← Nat.mul_assoc, Nat.mul_mod_left]
      simp
  simp only [binOp, Op.shift, hn, if_false, IntKind.bits, Sem.run_pure, w32]
  exact congrArg (fun z => Result.ok (Value.int .u32 z) w) e
theorem shr_u32 {x : UInt32} {k' : IntKind} {c : Int} (hc : 0 ≤ c) : BinR .shr .u32 x.toNat k' c (w32 (UInt32.ofNat (x.toNat / 2 ^ c.toNat))) := by
  intro P t w
  have hn : ¬ c < 0 := by omega
  have hx : x.toNat < 2 ^ 32 := x.toNat_lt
  have e : ((x.toNat : Int)).fdiv (2 ^ (min c.toNat 32)) = ((UInt32.ofNat (x.toNat / 2 ^ c.toNat)).toNat : Int) := by
    simp only [UInt32.toNat_ofNat']
    have h2 : ((2 : Int) ^ (min c.toNat 32)) = ((2 ^ (min c.toNat 32) : Nat) : Int) := by push_cast; rfl
    rw [h2, Int.fdiv_eq_ediv_of_nonneg _ (Int.natCast_nonneg _), ← Int.natCast_ediv]
    congr 1
    by_cases h : c.toNat ≤ 32
    · rw [Nat.min_eq_left h, Nat.mod_eq_of_lt]
      exact Nat.lt_of_le_of_lt (Nat.div_le_self _ _) hx
    · rw [Nat.min_eq_right (by omega), Nat.div_eq_of_lt hx, Nat.div_eq_of_lt (Nat.lt_of_lt_of_le hx (Nat.pow_le_pow_right (by omega) (by omega)))]
  simp only [binOp, Op.shift, hn, if_false, IntKind.bits, Sem.run_pure, w32]
  exact congrArg (fun z => Result.ok (Value.int .u32 z) w) e
theorem quo_u32 {x y : UInt32} (h : y ≠ 0) : BinR .quo .u32 x.toNat .u32 y.toNat (w32 (x / y)) := by
  intro P t w
  have hy : y.toNat ≠ 0 := fun e => h (UInt32.toNat_inj.1 (by simpa using e))
  have hy' : ¬ ((y.toNat : Int) = 0) := by omega
  have e : IntKind.u32.wrap ((x.toNat : Int).tdiv y.toNat) = ((x / y).toNat : Int) := by
    rw [Int.tdiv_eq_ediv_of_nonneg (by omega), ← Int.natCast_ediv, ← UInt32.toNat_div]
    exact back_u32 (x / y)
  simp only [binOp, Op.intDiv, hy', ne_eq, not_true_eq_false, if_false, Sem.run_pure, w32]
  exact congrArg (fun z => Result.ok (Value.int .u32 z) w) e
theorem rem_u32 {x y : UInt32} (h : y ≠ 0) : BinR .rem .u32 x.toNat .u32 y.toNat (w32 (x % y)) := by
  intro P t w
  have hy : y.toNat ≠ 0 := fun e => h (UInt32.toNat_inj.1 (by simpa using e))
  have hy' : ¬ ((y.toNat : Int) = 0) := by omega
  have e : ((x.toNat : Int).tmod y.toNat) = ((x % y).toNat : Int) := by
    rw [Int.tmod_eq_emod_of_nonneg (by omega), UInt32.toNat_mod]; rfl
  simp only [binOp, Op.intDiv, hy', ne_eq, not_true_eq_false, if_false, Sem.run_pure, w32]
  exact congrArg (fun z => Result.ok (Value.int .u32 z) w) e
theorem eql_u32 {x y : UInt32} : BinR .eql .u32 x.toNat .u32 y.toNat (.bool (decide (x = y))) := by
  intro P t w
  have e : ((x.toNat : Int) == (y.toNat : Int)) = decide (x = y) := by
    rw [Bool.eq_iff_iff]; simp only [beq_iff_eq, decide_eq_true_eq]
    exact ⟨fun h => UInt32.toNat_inj.1 (by omega), fun h => by rw [h]⟩
  simp only [binOp, Op.intCmp, ne_eq, not_true_eq_false, if_false, Sem.run_pure, e]
theorem neq_u32 {x y : UInt32} : BinR .neq .u32 x.toNat .u32 y.toNat (.bool (decide (x ≠ y))) := by
  intro P t w
  have e : ((x.toNat : Int) != (y.toNat : Int)) = decide (x ≠ y) := by
    rw [Bool.eq_iff_iff]; simp only [bne_iff_ne, decide_eq_true_eq, ne_eq]
    exact ⟨fun h e => h (by rw [e]), fun h e => h (UInt32.toNat_inj.1 (by omega))⟩
  simp only [binOp, Op.intCmp, ne_eq, not_true_eq_false, if_false, Sem.run_pure, e]
theorem lss_u32 {x y : UInt32} : BinR .lss .u32 x.toNat .u32 y.toNat (.bool (decide (x < y))) := by
  intro P t w
  have e : ((x.toNat : Int) < (y.toNat : Int)) = (x < y) := by rw [UInt32.lt_iff_toNat_lt]; simp
  simp only [binOp, Op.intCmp, ne_eq, not_true_eq_false, if_false, Sem.run_pure, e]
theorem leq_u32 {x y : UInt32} : BinR .leq .u32 x.toNat .u32 y.toNat (.bool (decide (x ≤ y))) := by
  intro P t w
  have e : ((x.toNat : Int) ≤ (y.toNat : Int)) = (x ≤ y) := by rw [UInt32.le_iff_toNat_le]; simp
  simp only [binOp, Op.intCmp, ne_eq, not_true_eq_false, if_false, Sem.run_pure, e]
theorem gtr_u32 {x y : UInt32} : BinR .gtr .u32 x.toNat .u32 y.toNat (.bool (decide (y < x))) := by
  intro P t w
  have e : ((x.toNat : Int) > (y.toNat : Int)) = (y < x) := by rw [UInt32.lt_iff_toNat_lt]; simp
  simp only [binOp, Op.intCmp, ne_eq, not_true_eq_false, if_false, Sem.run_pure, e]
theorem geq_u32 {x y : UInt32} : BinR .geq .u32 x.toNat .u32 y.toNat (.bool (decide (y ≤ x))) := by
  intro P t w
  have e : ((x.toNat : Int) ≥ (y.toNat : Int)) = (y ≤ x) := by rw [UInt32.le_iff_toNat_le]; simp
  simp only [binOp, Op.intCmp, ne_eq, not_true_eq_false, if_false, Sem.run_pure, e]

theorem wrap_u64 (n : Int) : IntKind.u64.wrap n = ((UInt64.ofInt n).toNat : Int) := by
  simp only [IntKind.wrap, IntKind.signed, IntKind.bits, Bool.false_and, Bool.false_eq_true, if_false]
  simp [UInt64.ofInt, UInt64.toNat_ofNat']
  omega
theorem ofInt_toNat_u64 (x : UInt64) : UInt64.ofInt (x.toNat : Int) = x := by
  apply UInt64.toNat_inj.1
  have h := wrap_u64 (x.toNat : Int)
  have hx : x.toNat < 2 ^ 64 := x.toNat_lt
  simp only [IntKind.wrap, IntKind.signed, IntKind.bits, Bool.false_and, Bool.false_eq_true, if_false] at h
  simp at h
  omega
theorem back_u64 (x : UInt64) : IntKind.u64.wrap (x.toNat : Int) = (x.toNat : Int) := by rw [wrap_u64, ofInt_toNat_u64]
theorem bits_u64 (x : UInt64) : BitVec.ofInt IntKind.u64.bits (x.toNat : Int) = x.toBitVec := by
  apply BitVec.eq_of_toNat_eq
  have hx : x.toNat < 2 ^ 64 := x.toNat_lt
  have : x.toBitVec.toNat = x.toNat := rfl
  simp [IntKind.bits]
theorem add_u64 {x y : UInt64} : BinR .add .u64 x.toNat .u64 y.toNat (w64 (x + y)) := by
  intro P t w
  have e : IntKind.u64.wrap ((x.toNat : Int) + y.toNat) = ((x + y).toNat : Int) := by
    rw [UInt64.toNat_add]
    simp only [IntKind.wrap, IntKind.signed, IntKind.bits, Bool.false_and, Bool.false_eq_true, if_false]
    omega
  simp [binOp, Op.intArith, w64, e]
theorem sub_u64 {x y : UInt64} : BinR .sub .u64 x.toNat .u64 y.toNat (w64 (x - y)) := by
  intro P t w
  have hy : y.toNat < 2 ^ 64 := y.toNat_lt
  have e : IntKind.u64.wrap ((x.toNat : Int) - y.toNat) = ((x - y).toNat : Int) := by
    rw [UInt64.toNat_sub]
    simp only [IntKind.wrap, IntKind.signed, IntKind.bits, Bool.false_and, Bool.false_eq_true, if_false]
    omega
  simp [binOp, Op.intArith, w64, e]
theorem mul_u64 {x y : UInt64} : BinR .mul .u64 x.toNat .u64 y.toNat (w64 (x * y)) := by
  intro P t w
  have e : IntKind.u64.wrap ((x.toNat : Int) * y.toNat) = ((x * y).toNat : Int) := by
    rw [UInt64.toNat_mul]
    simp only [IntKind.wrap, IntKind.signed, IntKind.bits, Bool.false_and, Bool.false_eq_true, if_false]
    rw [← Int.natCast_mul]
    omega
  simp [binOp, Op.intArith, w64, e]
theorem and_u64 {x y : UInt64} : BinR .and .u64 x.toNat .u64 y.toNat (w64 (x &&& y)) := by
  intro P t w
  have e : IntKind.u64.wrap (((x.toBitVec &&& y.toBitVec).toNat : Nat) : Int) = ((x &&& y).toNat : Int) := back_u64 (x &&& y)
  simp only [binOp, Op.intBits, bits_u64, ne_eq, not_true_eq_false, if_false, Sem.run_pure, w64]
  exact congrArg (fun z => Result.ok (Value.int .u64 z) w) e
theorem or_u64 {x y : UInt64} : BinR .or .u64 x.toNat .u64 y.toNat (w64 (x ||| y)) := by
  intro P t w
  have e : IntKind.u64.wrap (((x.toBitVec ||| y.toBitVec).toNat : Nat) : Int) = ((x ||| y).toNat : Int) := back_u64 (x ||| y)
  simp only [binOp, Op.intBits, bits_u64, ne_eq, not_true_eq_false, if_false, Sem.run_pure, w64]
  exact congrArg (fun z => Result.ok (Value.int .u64 z) w) e
theorem xor_u64 {x y : UInt64} : BinR .xor .u64 x.toNat .u64 y.toNat (w64 (x ^^^ y)) := by
  intro P t w
  have e : IntKind.u64.wrap (((x.toBitVec ^^^ y.toBitVec).toNat : Nat) : Int) = ((x ^^^ y).toNat : Int) := back_u64 (x ^^^ y)
  simp only [binOp, Op.intBits, bits_u64, ne_eq, not_true_eq_false, if_false, Sem.run_pure, w64]
  exact congrArg (fun z => Result.ok (Value.int .u64 z) w) e
/-- shifts by a count that is not below 0 -/
theorem shl_u64 {x : UInt64} {k' : IntKind} {c : Int} (hc : 0 ≤ c) : BinR .shl .u64 x.toNat k' c (w64 (UInt64.ofNat (x.toNat * 2 ^ c.toNat))) := by
  intro P t w
  have hn : ¬ c < 0 := by omega
  have e : IntKind.u64.wrap ((x.toNat : Int) * 2 ^ (min c.toNat 64)) = ((UInt64.ofNat (x.toNat * 2 ^ c.toNat)).toNat : Int) := by
    simp only [IntKind.wrap, IntKind.signed, IntKind.bits, Bool.false_and, Bool.false_eq_true, if_false, UInt64.toNat_ofNat']
    by_cases h : c.toNat ≤ 64
    · rw [Nat.min_eq_left h]
      have : ((x.toNat : Int) * 2 ^ c.toNat) = ((x.toNat * 2 ^ c.toNat : Nat) : Int) := by push_cast; rfl
      rw [this]
      omega
    · rw [Nat.min_eq_right (by omega)]
      obtain ⟨d, hd⟩ : ∃ d, c.toNat = 64 + d := ⟨c.toNat - 64, by omega⟩
      rw [hd, Nat.pow_add, Nat.mul_comm (2 ^ 64), ← Nat.mul_assoc, Nat.mul_mod_left]
      simp
  simp only [binOp, Op.shift, hn, if_false, IntKind.bits, Sem.run_pure, w64]
  exact congrArg (fun z => Result.ok (Value.int .u64 z) w) e
theorem shr_u64 {x : UInt64} {k' : IntKind} {c : Int} (hc : 0 ≤ c) : BinR .shr .u64 x.toNat k' c (w64 (UInt64.ofNat (x.toNat / 2 ^ c.toNat))) := by
  intro P t w
  have hn : ¬ c < 0 := by omega
  have hx : x.toNat < 2 ^ 64 := x.toNat_lt
  have e : ((x.toNat : Int)).fdiv (2 ^ (min c.toNat 64)) = ((UInt64.ofNat (x.toNat / 2 ^ c.toNat)).toNat : Int) := by
    simp only [UInt64.toNat_ofNat']
    have h2 : ((2 : Int) ^ (min c.toNat 64)) = ((2 ^ (min c.toNat 64) : Nat) : Int) := by push_cast; rfl
    rw [h2, Int.fdiv_eq_ediv_of_nonneg _ (Int.natCast_nonneg _), ← Int.natCast_ediv]
    congr 1
    by_cases h : c.toNat ≤ 64
    · rw [Nat.min_eq_left h, Nat.mod_eq_of_lt]
      exact Nat.lt_of_le_of_lt (Nat.div_le_self _ _) hx
    · rw [Nat.min_eq_right (by omega), Nat.div_eq_of_lt hx, Nat.div_eq_of_lt (Nat.lt_of_lt_of_le hx (Nat.pow_le_pow_right (by omega) (by omega)))]
  simp only [binOp, Op.shift, hn, if_false, IntKind.bits, Sem.run_pure, w64]
  exact congrArg (fun z => Result.ok (Value.int .u64 z) w) e
theorem quo_u64 {x y : UInt64} (h : y ≠ 0) : BinR .quo .u64 x.toNat .u64 y.toNat (w64 (x / y)) := by
  intro P t w
  have hy : y.toNat ≠ 0 := fun e => h (UInt64.toNat_inj.1 (by simpa using e))
  have hy' : ¬ ((y.toNat : Int) = 0) := by omega
  have e : IntKind.u64.wrap ((x.toNat : Int).tdiv y.toNat) = ((x / y).toNat : Int) := by
    rw [Int.tdiv_eq_ediv_of_nonneg (by omega), ← Int.natCast_ediv, ← UInt64.toNat_div]
    exact back_u64 (x / y)
  simp only [binOp, Op.intDiv, hy', ne_eq, not_true_eq_false, if_false, Sem.run_pure, w64]
  exact congrArg (fun z => Result.ok (Value.int .u64 z) w) e
theorem rem_u64 {x y : UInt64} (h : y ≠ 0) : BinR .rem .u64 x.toNat .u64 y.toNat (w64 (x % y)) := by
  intro P t w
  have hy : y.toNat ≠ 0 := fun e => h (UInt64.toNat_inj.1 (by simpa using e))
  have hy' : ¬ ((y.toNat : Int) = 0) := by omega
  have e : ((x.toNat : Int).tmod y.toNat) = ((x % y).toNat : Int) := by
    rw [Int.tmod_eq_emod_of_nonneg (by omega), UInt64.toNat_mod]; rfl
  simp only [binOp, Op.intDiv, hy', ne_eq, not_true_eq_false, if_false, Sem.run_pure, w64]
  exact congrArg (fun z => Result.ok (Value.int .u64 z) w) e
theorem eql_u64 {x y : UInt64} : BinR .eql .u64 x.toNat .u64 y.toNat (.bool (decide (x = y))) := by
  intro P t w
  have e : ((x.toNat : Int) == (y.toNat : Int)) = decide (x = y) := by
    rw [Bool.eq_iff_iff]; simp only [beq_iff_eq, decide_eq_true_eq]
    exact ⟨fun h => UInt64.toNat_inj.1 (by omega), fun h => by rw [h]⟩
  simp only [binOp, Op.intCmp, ne_eq, not_true_eq_false, if_false, Sem.run_pure, e]
theorem neq_u64 {x y : UInt64} : BinR .neq .u64 x.toNat .u64 y.toNat (.bool (decide (x ≠ y))) := by
  intro P t w
  have e : ((x.toNat : Int) != (y.toNat : Int)) = decide (x ≠ y) := by
    rw [Bool.eq_iff_iff]; simp only [bne_iff_ne, decide_eq_true_eq, ne_eq]
    exact ⟨fun h e => h (by rw [e]), fun h e => h (UInt64.toNat_inj.1 (by omega))⟩
  simp only [binOp, Op.intCmp, ne_eq, not_true_eq_false, if_false, Sem.run_pure, e]
theorem lss_u64 {x y : UInt64} : BinR .lss .u64 x.toNat .u64 y.toNat (.bool (decide (x < y))) := by
  intro P t w
  have e : ((x.toNat : Int) < (y.toNat : Int)) = (x < y) := by rw [UInt64.lt_iff_toNat_lt]; simp
  simp only [binOp, Op.intCmp, ne_eq, not_true_eq_false, if_false, Sem.run_pure, e]
theorem leq_u64 {x y : UInt64} : BinR .leq .u64 x.toNat .u64 y.toNat (.bool (decide (x ≤ y))) := by
  intro P t w
  have e : ((x.toNat : Int) ≤ (y.toNat : Int)) = (x ≤ y) := by rw [UInt64.le_iff_toNat_le]; simp
  simp only [binOp, Op.intCmp, ne_eq, not_true_eq_false, if_false, Sem.run_pure, e]
theorem gtr_u64 {x y : UInt64} : BinR .gtr .u64 x.toNat .u64 y.toNat (.bool (decide (y < x))) := by
  intro P t w
  have e : ((x.toNat : Int) > (y.toNat : Int)) = (y < x) := by rw [UInt64.lt_iff_toNat_lt]; simp
  simp only [binOp, Op.intCmp, ne_eq, not_true_eq_false, if_false, Sem.run_pure, e]
theorem geq_u64 {x y : UInt64} : BinR .geq .u64 x.toNat .u64 y.toNat (.bool (decide (y ≤ x))) := by
  intro P t w
  have e : ((x.toNat : Int) ≥ (y.toNat : Int)) = (y ≤ x) := by rw [UInt64.le_iff_toNat_le]; simp
  simp only [binOp, Op.intCmp, ne_eq, not_true_eq_false, if_false, Sem.run_pure, e]

/-! int -/
theorem add_i64 {x y : Int} (h1 : -9223372036854775808 ≤ x + y) (h2 : x + y ≤ 9223372036854775807) : BinR .add .i64 x .i64 y (.int .i64 (x + y)) := by
  intro P t w; simp only [binOp, Op.intArith, ne_eq, not_true_eq_false, if_false, Sem.run_pure, wrap_i64 _ h1 h2]
theorem sub_i64 {x y : Int} (h1 : -9223372036854775808 ≤ x - y) (h2 : x - y ≤ 9223372036854775807) : BinR .sub .i64 x .i64 y (.int .i64 (x - y)) := by
  intro P t w; simp only [binOp, Op.intArith, ne_eq, not_true_eq_false, if_false, Sem.run_pure, wrap_i64 _ h1 h2]
theorem mul_i64 {x y : Int} (h1 : -9223372036854775808 ≤ x * y) (h2 : x * y ≤ 9223372036854775807) : BinR .mul .i64 x .i64 y (.int .i64 (x * y)) := by
  intro P t w; simp only [binOp, Op.intArith, ne_eq, not_true_eq_false, if_false, Sem.run_pure, wrap_i64 _ h1 h2]
theorem addw_i64 {x y : Int} : BinR .add .i64 x .i64 y (.int .i64 (IntKind.i64.wrap (x + y))) := by
  intro P t w; simp only [binOp, Op.intArith, ne_eq, not_true_eq_false, if_false, Sem.run_pure]
theorem subw_i64 {x y : Int} : BinR .sub .i64 x .i64 y (.int .i64 (IntKind.i64.wrap (x - y))) := by
  intro P t w; simp only [binOp, Op.intArith, ne_eq, not_true_eq_false, if_false, Sem.run_pure]
theorem mulw_i64 {x y : Int} : BinR .mul .i64 x .i64 y (.int .i64 (IntKind.i64.wrap (x * y))) := by
  intro P t w; simp only [binOp, Op.intArith, ne_eq, not_true_eq_false, if_false, Sem.run_pure]
/-- a quotient of numbers of which neither is below 0 -/
theorem quo_i64 {x y : Int} (hx : 0 ≤ x) (hy : 0 < y) (h2 : x ≤ 9223372036854775807) : BinR .quo .i64 x .i64 y (.int .i64 (x / y)) := by
  intro P t w
  have hy' : ¬ (y = 0) := by omega
  have h3 : 0 ≤ x / y := Int.ediv_nonneg hx (by omega)
  have h4 : x / y ≤ x := Int.ediv_le_self _ hx
  simp only [binOp, Op.intDiv, hy', ne_eq, not_true_eq_false, if_false, Sem.run_pure, Int.tdiv_eq_ediv_of_nonneg hx]
  rw [wrap_i64 _ (by omega) (by omega)]
theorem rem_i64 {x y : Int} (hx : 0 ≤ x) (hy : y ≠ 0) : BinR .rem .i64 x .i64 y (.int .i64 (x % y)) := by
  intro P t w
  simp only [binOp, Op.intDiv, hy, ne_eq, not_true_eq_false, if_false, Sem.run_pure, Int.tmod_eq_emod_of_nonneg hx]
theorem remt_i64 {x y : Int} (hy : y ≠ 0) : BinR .rem .i64 x .i64 y (.int .i64 (x.tmod y)) := by
  intro P t w
  simp only [binOp, Op.intDiv, hy, ne_eq, not_true_eq_false, if_false, Sem.run_pure]
theorem quot_i64 {x y : Int} (hy : y ≠ 0) : BinR .quo .i64 x .i64 y (.int .i64 (IntKind.i64.wrap (x.tdiv y))) := by
  intro P t w
  simp only [binOp, Op.intDiv, hy, ne_eq, not_true_eq_false, if_false, Sem.run_pure]
theorem shl_i64 {x : Int} {k' : IntKind} {c : Int} (hc : 0 ≤ c) (hc2 : c ≤ 64) (h1 : -9223372036854775808 ≤ x * 2 ^ c.toNat) (h2 : x * 2 ^ c.toNat ≤ 9223372036854775807) : BinR .shl .i64 x k' c (.int .i64 (x * 2 ^ c.toNat)) := by
  intro P t w
  have hn : ¬ c < 0 := by omega
  have e : min c.toNat 64 = c.toNat := Nat.min_eq_left (by omega)
  simp only [binOp, Op.shift, hn, if_false, IntKind.bits, Sem.run_pure, e, wrap_i64 _ h1 h2]
theorem shr_i64 {x : Int} {k' : IntKind} {c : Int} (hc : 0 ≤ c) (hc2 : c ≤ 64) : BinR .shr .i64 x k' c (.int .i64 (x / 2 ^ c.toNat)) := by
  intro P t w
  have hn : ¬ c < 0 := by omega
  have e : min c.toNat 64 = c.toNat := Nat.min_eq_left (by omega)
  simp only [binOp, Op.shift, hn, if_false, IntKind.bits, Sem.run_pure, e]
  rw [Int.fdiv_eq_ediv_of_nonneg _ (Int.le_of_lt (Int.pow_pos (by omega)))]
theorem eql_int {k : IntKind} {x y : Int} : BinR .eql k x k y (.bool (decide (x = y))) := by
  intro P t w
  have e : (x == y) = decide (x = y) := by rw [Bool.eq_iff_iff]; simp
  simp only [binOp, Op.intCmp, ne_eq, not_true_eq_false, if_false, Sem.run_pure, e]
theorem neq_int {k : IntKind} {x y : Int} : BinR .neq k x k y (.bool (decide (x ≠ y))) := by
  intro P t w
  have e : (x != y) = decide (x ≠ y) := by rw [Bool.eq_iff_iff]; simp
  simp only [binOp, Op.intCmp, ne_eq, not_true_eq_false, if_false, Sem.run_pure, e]
theorem lss_int {k : IntKind} {x y : Int} : BinR .lss k x k y (.bool (decide (x < y))) := by
  intro P t w; simp only [binOp, Op.intCmp, ne_eq, not_true_eq_false, if_false, Sem.run_pure]
theorem leq_int {k : IntKind} {x y : Int} : BinR .leq k x k y (.bool (decide (x ≤ y))) := by
  intro P t w; simp only [binOp, Op.intCmp, ne_eq, not_true_eq_false, if_false, Sem.run_pure]
theorem gtr_int {k : IntKind} {x y : Int} : BinR .gtr k x k y (.bool (decide (y < x))) := by
  intro P t w; simp only [binOp, Op.intCmp, ne_eq, not_true_eq_false, if_false, Sem.run_pure]
theorem geq_int {k : IntKind} {x y : Int} : BinR .geq k x k y (.bool (decide (y ≤ x))) := by
  intro P t w; simp only [binOp, Op.intCmp, ne_eq, not_true_eq_false, if_false, Sem.run_pure]
end B
end Go.Sl
