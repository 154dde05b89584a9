/- A sealed sector of which some bits within 32 are turned isn't sealed any more: the register is linear, and loses nothing. Plain Lean. -/
import Derived.Test.YthaibfmnpcpkfaaDoorCheckPureb
set_option linter.unusedVariables false
namespace Go.Sl

theorem crcT_zero : crcT 0 = 0 := by decide
theorem crcT_eq_zero {z : UInt32} (h : crcT z = 0) : z = 0 := by
  unfold crcT at h
  have h1 := shr1 z
  have h2 := and1 z
  have hz := z.toNat_lt
  rcases and1_cases z with e | e
  · rw [e, if_neg (by decide)] at h
    have h3 : z >>> 1 = 0 := by simpa using h
    have h4 := congrArg UInt32.toNat h3
    have h5 := congrArg UInt32.toNat e
    rw [h1] at h4; rw [h2] at h5
    apply UInt32.toNat_inj.1
    simp at h4 h5 ⊢; omega
  · rw [e, if_pos rfl] at h
    have h3 : z >>> 1 = 2197175160 := by
      have := congrArg (· ^^^ (2197175160 : UInt32)) h
      simpa [UInt32.xor_assoc] using this
    have h4 := congrArg UInt32.toNat h3
    rw [h1] at h4
    simp at h4; omega
theorem xor_eq_zero {x y : UInt32} (h : x ^^^ y = 0) : x = y := by
  have := congrArg (· ^^^ y) h
  simpa [UInt32.xor_assoc] using this
theorem crcT_inj {x y : UInt32} (h : crcT x = crcT y) : x = y := by
  apply xor_eq_zero
  apply crcT_eq_zero
  rw [crcT_xor, h]; simp
def crcTn : Nat → UInt32 → UInt32
  | 0, x => x
  | n + 1, x => crcTn n (crcT x)
theorem crcTn_inj : ∀ (n : Nat) {x y : UInt32}, crcTn n x = crcTn n y → x = y
  | 0, _, _, h => h
  | n + 1, _, _, h => crcT_inj (crcTn_inj n h)
theorem crcTn_zero : ∀ n, crcTn n 0 = 0
  | 0 => rfl
  | n + 1 => by rw [crcTn, crcT_zero, crcTn_zero n]
theorem crcTn_xor : ∀ (n : Nat) (x y : UInt32), crcTn n (x ^^^ y) = crcTn n x ^^^ crcTn n y
  | 0, _, _ => rfl
  | n + 1, x, y => by simp only [crcTn, crcT_xor, crcTn_xor n]

/-! bits -/
def bU (x : Bool) : UInt32 := if x then 1 else 0
def crcL (r : UInt32) (l : List Bool) : UInt32 := l.foldl (fun r x => crcT (r ^^^ bU x)) r
def bitsB (b : UInt8) : List Bool := [b.toNat.testBit 0, b.toNat.testBit 1, b.toNat.testBit 2, b.toNat.testBit 3, b.toNat.testBit 4, b.toNat.testBit 5, b.toNat.testBit 6, b.toNat.testBit 7]
def bitsOf (l : List UInt8) : List Bool := l.flatMap bitsB
theorem bU_bit (b : UInt8) (j : Nat) : bU (b.toNat.testBit j) = bitU b j := by
  unfold bU bitU
  rw [Nat.testBit_eq_decide_div_mod_eq]
  rcases Nat.mod_two_eq_zero_or_one (b.toNat / 2 ^ j) with h | h <;> rw [h] <;> rfl
theorem crcL_byte (r : UInt32) (b : UInt8) : crcL r (bitsB b) = crcB r b := by
  rw [← crcJ_byte]
  simp only [crcL, bitsB, List.foldl_cons, List.foldl_nil, bU_bit, crcJ]
theorem crcL_append (r : UInt32) (l m : List Bool) : crcL r (l ++ m) = crcL (crcL r l) m := by simp [crcL]
theorem crcL_bytes : ∀ (l : List UInt8) (r : UInt32), crcL r (bitsOf l) = crcR r l
  | [], r => rfl
  | b :: l, r => by
    show crcL r (bitsB b ++ bitsOf l) = crcR (crcB r b) l
    rw [crcL_append, crcL_byte, crcL_bytes l]
theorem crcL_xor : ∀ (l m : List Bool) (r r' : UInt32), l.length = m.length → crcL (r ^^^ r') (List.zipWith xor l m) = crcL r l ^^^ crcL r' m
  | [], [], _, _, _ => rfl
  | [], _ :: _, _, _, h => by simp at h
  | _ :: _, [], _, _, h => by simp at h
  | a :: l, b :: m, r, r', h => by
    have := crcL_xor l m (crcT (r ^^^ bU a)) (crcT (r' ^^^ bU b)) (by simpa using h)
    have e : bU (xor a b) = bU a ^^^ bU b := by cases a <;> cases b <;> decide
    show crcL (crcT (r ^^^ r' ^^^ bU (xor a b))) _ = crcL (crcT (r ^^^ bU a)) l ^^^ crcL (crcT (r' ^^^ bU b)) m
    rw [← this, e, xor_swap, crcT_xor]
theorem crcL_false (n : Nat) (r : UInt32) : crcL r (List.replicate n false) = crcTn n r := by
  induction n generalizing r with
  | zero => rfl
  | succ n ih =>
    show crcL (crcT (r ^^^ bU false)) (List.replicate n false) = crcTn n (crcT r)
    rw [ih]; simp [bU]
def bitsN : List Bool → Nat
  | [] => 0
  | b :: r => (if b then 1 else 0) + 2 * bitsN r
theorem bitsN_lt : ∀ (l : List Bool), bitsN l < 2 ^ l.length
  | [] => by simp [bitsN]
  | b :: r => by
    have := bitsN_lt r
    simp only [bitsN, List.length_cons, Nat.pow_succ]
    split <;> omega
theorem bitsN_zero : ∀ (l : List Bool), bitsN l = 0 ↔ ∀ x ∈ l, x = false
  | [] => by simp [bitsN]
  | b :: r => by
    have := bitsN_zero r
    cases b
    · simp only [bitsN, Bool.false_eq_true, if_false, Nat.zero_add, List.mem_cons, forall_eq_or_imp, true_and]
      rw [← this]; omega
    · simp [bitsN]
theorem bitsN_append : ∀ (l m : List Bool), bitsN (l ++ m) = bitsN l + 2 ^ l.length * bitsN m
  | [], m => by simp [bitsN]
  | b :: l, m => by
    simp only [List.cons_append, bitsN, List.length_cons, bitsN_append l m, Nat.pow_succ, Nat.mul_add]
    rw [Nat.mul_comm (2 ^ l.length) 2, Nat.mul_assoc]; omega
theorem bitsN_byte (b : UInt8) : bitsN (bitsB b) = b.toNat := by
  have h : ∀ n < 256, bitsN (bitsB (UInt8.ofNat n)) = n := by decide +kernel
  have := h b.toNat b.toNat_lt
  simpa using this
theorem bitsN_bytes : ∀ (l : List UInt8), bitsN (bitsOf l) = leN l
  | [] => rfl
  | b :: l => by
    show bitsN (bitsB b ++ bitsOf l) = b.toNat + 256 * leN l
    have h8 : 2 ^ (bitsB b).length = 256 := by simp [bitsB]
    rw [bitsN_append, bitsN_byte, bitsN_bytes l, h8]
theorem bitsOf_len (l : List UInt8) : (bitsOf l).length = 8 * l.length := by
  induction l with
  | nil => rfl
  | cons b l ih =>
    show (bitsB b ++ bitsOf l).length = _
    rw [List.length_append, ih]; simp [bitsB]; omega
/-- what few bits do to the register: as if they all were in it at once -/
theorem crcL_closed : ∀ (l : List Bool) (r : UInt32), l.length ≤ 32 → crcL r l = crcTn l.length (r ^^^ UInt32.ofNat (bitsN l))
  | [], r, _ => by simp [crcL, crcTn, bitsN]
  | b :: l, r, h => by
    simp only [List.length_cons] at h ⊢
    have ih := crcL_closed l (crcT (r ^^^ bU b)) (by omega)
    have hlt := bitsN_lt l
    have hp : 2 ^ l.length ≤ 2 ^ 31 := Nat.pow_le_pow_right (by omega) (by omega)
    show crcL (crcT (r ^^^ bU b)) l = crcTn l.length (crcT (r ^^^ UInt32.ofNat (bitsN (b :: l))))
    rw [ih]
    congr 1
    have he : UInt32.ofNat (bitsN (b :: l)) = bU b ^^^ UInt32.ofNat (2 * bitsN l) := by
      apply UInt32.toNat_inj.1
      rw [UInt32.toNat_xor, UInt32.toNat_ofNat', UInt32.toNat_ofNat', Nat.mod_eq_of_lt (by simp only [bitsN]; split <;> omega), Nat.mod_eq_of_lt (by omega)]
      cases b
      · simp [bitsN, bU]
      · have : (1 : Nat) ^^^ 2 * bitsN l = 1 + 2 * bitsN l := by
          apply Nat.eq_of_testBit_eq
          intro i
          rw [Nat.testBit_xor]
          cases i with
          | zero => simp
          | succ i => rw [Nat.testBit_succ, Nat.testBit_succ, Nat.testBit_succ, show (1 + 2 * bitsN l) / 2 = bitsN l by omega, show 2 * bitsN l / 2 = bitsN l by omega]; simp
        show bitsN (true :: l) = (1 : UInt32).toNat ^^^ 2 * bitsN l
        rw [show (1 : UInt32).toNat = 1 from rfl, this]; rfl
    have hs : crcT (UInt32.ofNat (2 * bitsN l)) = UInt32.ofNat (bitsN l) := by
      have e1 : (UInt32.ofNat (2 * bitsN l)).toNat = 2 * bitsN l := by rw [UInt32.toNat_ofNat', Nat.mod_eq_of_lt (by omega)]
      rw [crcT_even _ (by omega)]
      apply UInt32.toNat_inj.1
      rw [shr1, e1, UInt32.toNat_ofNat', Nat.mod_eq_of_lt (by omega)]; omega
    rw [he, ← UInt32.xor_assoc, crcT_xor (r ^^^ bU b), hs]

/-! what it is to be sealed -/
theorem leN_inj : ∀ (l m : List UInt8), l.length = m.length → leN l = leN m → l = m
  | [], [], _, _ => rfl
  | [], _ :: _, h, _ => by simp at h
  | _ :: _, [], h, _ => by simp at h
  | a :: l, b :: m, h, e => by
    have ha := a.toNat_lt
    have hb := b.toNat_lt
    simp only [leN] at e
    have e1 : a.toNat = b.toNat := by omega
    rw [leN_inj l m (by simpa using h) (by omega), UInt8.toNat_inj.1 e1]
theorem seal_iff (l : List UInt8) (h : l.length = 64) : openN l = true ↔ crcR 4294967295 l = crcTn 32 4294967295 := by
  have hd : (l.take 60).length = 60 := by rw [List.length_take]; omega
  have ht : (l.drop 60).length = 4 := by rw [List.length_drop]; omega
  have hl : l.take 60 ++ l.drop 60 = l := List.take_append_drop 60 l
  have hpad : padN (l.take 60) = l.take 60 := by unfold padN; rw [hd, List.take_of_length_le (by omega)]; simp
  have hfl : ∀ u, (fourN u).length = 4 := fun _ => rfl
  have h1 : openN l = true ↔ fourN (crcN (l.take 60)) = l.drop 60 := by
    unfold openN
    rw [decide_eq_true_iff]
    constructor
    · rintro ⟨_, e⟩
      have e2 := congrArg (List.drop 60) e
      unfold sealN at e2
      rw [hpad, List.drop_left' hd] at e2
      exact e2
    · intro e
      refine ⟨h, ?_⟩
      unfold sealN
      rw [hpad, e, hl]
  rw [h1]
  have h2 : crcR 4294967295 l = crcTn 32 (crcR 4294967295 (l.take 60) ^^^ UInt32.ofNat (leN (l.drop 60))) := by
    have : crcR 4294967295 l = crcR (crcR 4294967295 (l.take 60)) (l.drop 60) := by rw [← crcR_append, hl]
    rw [this, ← crcL_bytes, crcL_closed _ _ (by rw [bitsOf_len]; omega), bitsOf_len, ht, bitsN_bytes]
  rw [h2]
  have hlt := leN_lt (l.drop 60)
  rw [ht] at hlt
  have hnx : ∀ x : UInt32, x ^^^ ~~~x = 4294967295 := by
    intro x
    apply UInt32.toBitVec_inj.1
    show x.toBitVec ^^^ ~~~x.toBitVec = BitVec.allOnes 32
    apply BitVec.eq_of_getLsbD_eq
    intro i hi
    rw [BitVec.getLsbD_xor, BitVec.getLsbD_not, BitVec.getLsbD_allOnes]
    simp [hi]
  constructor
  · intro e
    rw [← e, leN_four]
    unfold crcN
    rw [UInt32.ofNat_toNat, hnx]
  · intro e
    have e2 := crcTn_inj 32 e
    apply leN_inj _ _ (by rw [hfl, ht])
    rw [leN_four]
    have e3 : UInt32.ofNat (leN (l.drop 60)) = crcN (l.take 60) := by
      unfold crcN
      generalize crcR 4294967295 (l.take 60) = r at e2
      have := congrArg (r ^^^ ·) e2
      simp only [xor_self_cancel] at this
      rw [this, ← hnx r, xor_self_cancel]
    have e4 := congrArg UInt32.toNat e3
    rw [UInt32.toNat_ofNat', Nat.mod_eq_of_lt (by omega)] at e4
    exact e4.symm

/-! turned bits -/
theorem bitsOf_get : ∀ (l : List UInt8) (t : Nat), (bitsOf l)[t]? = (l[t / 8]?).map fun b => b.toNat.testBit (t % 8)
  | [], t => by simp [bitsOf]
  | b :: l, t => by
    show (bitsB b ++ bitsOf l)[t]? = _
    by_cases h : t < 8
    · rw [List.getElem?_append_left (by simpa [bitsB] using h), show t / 8 = 0 by omega, show t % 8 = t by omega]
      have : t = 0 ∨ t = 1 ∨ t = 2 ∨ t = 3 ∨ t = 4 ∨ t = 5 ∨ t = 6 ∨ t = 7 := by omega
      rcases this with rfl | rfl | rfl | rfl | rfl | rfl | rfl | rfl <;> rfl
    · rw [List.getElem?_append_right (by simp [bitsB]; omega), show (bitsB b).length = 8 from rfl, bitsOf_get l (t - 8), show t / 8 = (t - 8) / 8 + 1 by omega, show t % 8 = (t - 8) % 8 by omega]
      simp
theorem bits_flip (l : List UInt8) (t : Nat) (b : UInt8) (hb : l[t / 8]? = some b) : bitsOf (l.set (t / 8) (b ^^^ UInt8.ofNat (2 ^ (t % 8)))) = (bitsOf l).set t (!b.toNat.testBit (t % 8)) := by
  have hlt : t / 8 < l.length := (List.getElem?_eq_some_iff.1 hb).1
  apply List.ext_getElem?
  intro i
  rw [bitsOf_get, List.getElem?_set, List.getElem?_set, bitsOf_get, bitsOf_len]
  have hp : (UInt8.ofNat (2 ^ (t % 8))).toNat = 2 ^ (t % 8) := by
    rw [UInt8.toNat_ofNat', Nat.mod_eq_of_lt]
    have : 2 ^ (t % 8) ≤ 2 ^ 7 := Nat.pow_le_pow_right (by omega) (by omega)
    omega
  by_cases h1 : t / 8 = i / 8
  · rw [if_pos h1, if_pos hlt]
    simp only [Option.map_some, UInt8.toNat_xor, hp, Nat.testBit_xor, Nat.testBit_two_pow]
    by_cases h2 : t = i
    · subst h2; rw [if_pos rfl, if_pos (by omega)]; simp
    · rw [if_neg h2, ← h1, hb]
      have : ¬ t % 8 = i % 8 := by omega
      simp [this]
  · rw [if_neg h1, if_neg (by omega)]
/-- the bits of a number, the lowest first, laid from place k on: those below i -/
def errAt (pat : Nat) (k i : Nat) : List Bool := (List.range 512).map fun t => decide (k ≤ t ∧ t < k + i) && pat.testBit (t - k)
theorem errAt_len (pat k i : Nat) : (errAt pat k i).length = 512 := by simp [errAt]
theorem zip_get (a e : List Bool) (t : Nat) : (List.zipWith xor a e)[t]? = match a[t]?, e[t]? with | some x, some y => some (xor x y) | _, _ => none := by
  rw [List.getElem?_zipWith]
  cases a[t]? <;> cases e[t]? <;> rfl
theorem errAt_get (pat k i t : Nat) (h : t < 512) : (errAt pat k i)[t]? = some (decide (k ≤ t ∧ t < k + i) && pat.testBit (t - k)) := by simp [errAt, h]
theorem err_step1 (a : List Bool) (pat k i : Nat) (x : Bool) (ha : a.length = 512) (hki : k + i < 512) (hp : pat.testBit i = true) (hx : (List.zipWith xor a (errAt pat k i))[k + i]? = some x) :
    (List.zipWith xor a (errAt pat k i)).set (k + i) (!x) = List.zipWith xor a (errAt pat k (i + 1)) := by
  apply List.ext_getElem?
  intro t
  rw [List.getElem?_set]
  by_cases h : k + i = t
  · subst h
    rw [if_pos rfl, if_pos (by rw [List.length_zipWith, errAt_len, ha]; omega)]
    rw [zip_get, errAt_get _ _ _ _ hki] at hx
    rw [zip_get, errAt_get _ _ _ _ hki]
    obtain ⟨y, hy⟩ : ∃ y, a[k + i]? = some y := ⟨a[k + i]'(by omega), by simp⟩
    rw [hy] at hx ⊢
    simp only [Option.some.injEq] at hx ⊢
    rw [← hx]
    have e1 : decide (k ≤ k + i ∧ k + i < k + i) = false := decide_eq_false (by omega)
    have e2 : decide (k ≤ k + i ∧ k + i < k + (i + 1)) = true := decide_eq_true (by omega)
    rw [e1, e2, show k + i - k = i by omega, hp]
    cases y <;> rfl
  · rw [if_neg h, zip_get, zip_get]
    by_cases ht : t < 512
    · rw [errAt_get _ _ _ _ ht, errAt_get _ _ _ _ ht]
      have : decide (k ≤ t ∧ t < k + i) = decide (k ≤ t ∧ t < k + (i + 1)) := decide_eq_decide.2 (by omega)
      rw [this]
    · rw [List.getElem?_eq_none (by omega : a.length ≤ t)]
theorem err_step0 (pat k i : Nat) (hp : pat.testBit i = false) : errAt pat k i = errAt pat k (i + 1) := by
  unfold errAt
  apply List.map_congr_left
  intro t _
  by_cases h : t = k + i
  · subst h; rw [show k + i - k = i by omega, hp]; simp
  · have : decide (k ≤ t ∧ t < k + i) = decide (k ≤ t ∧ t < k + (i + 1)) := decide_eq_decide.2 (by omega)
    rw [this]
theorem errAt_form (pat k m : Nat) (h : k + m ≤ 512) : errAt pat k m = List.replicate k false ++ ((List.range m).map fun j => pat.testBit j) ++ List.replicate (512 - k - m) false := by
  apply List.ext_getElem?
  intro t
  by_cases ht : t < 512
  · rw [errAt_get _ _ _ _ ht]
    by_cases h1 : t < k
    · rw [List.getElem?_append_left (by simp; omega), List.getElem?_append_left (by simpa using h1), List.getElem?_replicate, if_pos h1]
      have : decide (k ≤ t ∧ t < k + m) = false := decide_eq_false (by omega)
      rw [this]; rfl
    · by_cases h2 : t < k + m
      · rw [List.getElem?_append_left (by simp; omega), List.getElem?_append_right (by simp; omega)]
        have : decide (k ≤ t ∧ t < k + m) = true := decide_eq_true (by omega)
        rw [this]
        simp only [List.length_replicate, List.getElem?_map, List.getElem?_range (show t - k < m by omega)]
        rfl
      · rw [List.getElem?_append_right (by simp; omega)]
        have : decide (k ≤ t ∧ t < k + m) = false := decide_eq_false (by omega)
        rw [this, List.getElem?_replicate, if_pos (by simp; omega)]; rfl
  · rw [List.getElem?_eq_none (by rw [errAt_len]; omega), List.getElem?_eq_none (by simp; omega)]
theorem crc_err (pat k m : Nat) (h : k + m ≤ 512) (hm : m ≤ 32) : crcL 0 (errAt pat k m) = 0 ↔ ∀ j < m, pat.testBit j = false := by
  rw [errAt_form pat k m h, crcL_append, crcL_append, crcL_false k 0, crcTn_zero, crcL_closed ((List.range m).map fun j => pat.testBit j) 0 (by simpa using hm), crcL_false (512 - k - m)]
  generalize hb : ((List.range m).map fun j => pat.testBit j) = bl
  have hbl : bl.length = m := by rw [← hb]; simp
  have hlt := bitsN_lt bl
  rw [hbl] at hlt
  have hp : 2 ^ m ≤ 2 ^ 32 := Nat.pow_le_pow_right (by omega) hm
  constructor
  · intro e
    have e1 : crcTn bl.length (0 ^^^ UInt32.ofNat (bitsN bl)) = 0 := crcTn_inj (512 - k - m) (e.trans (crcTn_zero _).symm)
    have e2 : (0 : UInt32) ^^^ UInt32.ofNat (bitsN bl) = 0 := crcTn_inj bl.length (e1.trans (crcTn_zero _).symm)
    have e3 := congrArg UInt32.toNat e2
    simp only [UInt32.zero_xor, UInt32.toNat_ofNat'] at e3
    rw [Nat.mod_eq_of_lt (by omega)] at e3
    have e4 := (bitsN_zero bl).1 e3
    intro j hj
    apply e4
    rw [← hb]
    exact List.mem_map.2 ⟨j, List.mem_range.2 hj, rfl⟩
  · intro hz
    have e4 : bitsN bl = 0 := (bitsN_zero bl).2 (by
      intro x hx
      rw [← hb] at hx
      obtain ⟨j, hj, rfl⟩ := List.mem_map.1 hx
      exact hz j (List.mem_range.1 hj))
    rw [e4]
    simp [crcTn_zero]
/-- a sealed sector, some bits of it turned, is sealed just if none is -/
theorem open_err (l l' : List UInt8) (pat k m : Nat) (h : k + m ≤ 512) (hm : m ≤ 32) (hl : l.length = 64) (hl' : l'.length = 64) (ho : openN l = true) (hb : bitsOf l' = List.zipWith xor (bitsOf l) (errAt pat k m)) :
    openN l' = true ↔ ∀ j < m, pat.testBit j = false := by
  rw [seal_iff l' hl', ← crc_err pat k m h hm, ← crcL_bytes, hb]
  have e := (seal_iff l hl).1 ho
  have hx : crcL (4294967295 ^^^ 0) (List.zipWith xor (bitsOf l) (errAt pat k m)) = crcL 4294967295 (bitsOf l) ^^^ crcL 0 (errAt pat k m) := crcL_xor _ _ _ _ (by rw [bitsOf_len, errAt_len, hl])
  rw [show (4294967295 : UInt32) ^^^ 0 = 4294967295 by decide, crcL_bytes, e] at hx
  rw [hx]
  constructor
  · intro hh
    have := congrArg (crcTn 32 4294967295 ^^^ ·) hh
    simp only [xor_self_cancel] at this
    simpa using this
  · intro hh; rw [hh]; simp
end Go.Sl
