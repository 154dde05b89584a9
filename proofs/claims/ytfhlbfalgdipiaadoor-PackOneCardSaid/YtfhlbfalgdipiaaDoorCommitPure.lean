/- Commits as plain things, and their bytes. -/
import Derived.Test.YtfhlbfalgdipiaaDoorDigitLaw
set_option linter.unusedVariables false
namespace Go.Sl

abbrev K32 := BA 32
structure Cm where
  chart : K32
  parents : List K32
  note : List UInt8
  deriving DecidableEq
/-- the cells of a commit: its chart, its parents' slice, its note -/
def cmC (ch : K32) (pv nv : Value) : List Value := bs ch.val ++ [pv, nv]
@[simp] theorem cmC_len (ch : K32) (pv nv : Value) : (cmC ch pv nv).length = 34 := by simp [cmC, bs_length]
theorem cmC_one {ch : K32} {pv nv : Value} (h1 : pv.oneCell' = true) (h2 : nv.oneCell' = true) : ∀ u ∈ cmC ch pv nv, u.oneCell' = true := by
  intro u hu
  simp only [cmC, List.mem_append, List.mem_cons, List.not_mem_nil, or_false] at hu
  rcases hu with hu | rfl | rfl
  · exact bs_one _ u hu
  · exact h1
  · exact h2
instance (ch : K32) (pv nv : Value) : CellAt (cmC ch pv nv) 32 pv := ⟨by rw [cmC, List.getElem?_append_right (by rw [bs_length, ch.len]; exact Nat.le_refl _), bs_length, ch.len]; rfl⟩
instance (ch : K32) (pv nv : Value) : CellAt (cmC ch pv nv) 33 nv := ⟨by rw [cmC, List.getElem?_append_right (by rw [bs_length, ch.len]; omega), bs_length, ch.len]; rfl⟩
instance (ch : K32) (pv nv v : Value) : SetAt (cmC ch pv nv) 32 v (cmC ch v nv) := ⟨by rw [cmC_len]; omega, by rw [cmC, List.set_append_right _ _ (by rw [bs_length, ch.len]; exact Nat.le_refl _), bs_length, ch.len]; rfl⟩
instance (ch : K32) (pv nv v : Value) : SetAt (cmC ch pv nv) 33 v (cmC ch pv v) := ⟨by rw [cmC_len]; omega, by rw [cmC, List.set_append_right _ _ (by rw [bs_length, ch.len]; omega), bs_length, ch.len]; rfl⟩

def rightC (c : Cm) : Bool := decide (c.parents.length ≤ 2) && decide (c.note.length ≤ 30) && (decide (c.parents.length < 2) || decide ((c.parents.getD 0 default).val ≠ (c.parents.getD 1 default).val))
def keys (l : List K32) : List UInt8 := l.flatMap fun k => k.val
theorem keys_len (l : List K32) : (keys l).length = 32 * l.length := by
  induction l with
  | nil => rfl
  | cons k l ih => rw [keys, List.flatMap_cons, List.length_append, k.len, List.length_cons]; rw [keys] at ih; omega
theorem keys_snoc (l : List K32) (k : K32) : keys (l ++ [k]) = keys l ++ k.val := by simp [keys]
theorem keys_take (l : List K32) (i : Nat) (h : i < l.length) : keys (l.take (i + 1)) = keys (l.take i) ++ (l.getD i default).val := by
  rw [List.take_add_one, List.getElem?_eq_getElem h, Option.toList_some, keys_snoc, List.getD_eq_getElem?_getD, List.getElem?_eq_getElem h]; rfl
def encC (c : Cm) : List UInt8 := [75, 49] ++ c.chart.val ++ numN c.parents.length ++ keys c.parents ++ (numN c.note.length ++ c.note)

def near2 (l : List K32) : List K32 := if l.length = 2 ∧ (l.getD 0 default).val = (l.getD 1 default).val then l.take 1 else l
/-- a commit that may be -/
def nearC (c : Cm) : Cm := ⟨c.chart, near2 (c.parents.take 2), c.note.take 30⟩
theorem near2_ok (l : List K32) (h : l.length ≤ 2) : (near2 l).length ≤ 2 ∧ ((near2 l).length < 2 ∨ ((near2 l).getD 0 default).val ≠ ((near2 l).getD 1 default).val) := by
  unfold near2
  by_cases hq : l.length = 2 ∧ (l.getD 0 default).val = (l.getD 1 default).val
  · rw [if_pos hq]
    exact ⟨by simp; omega, .inl (by simp; omega)⟩
  · rw [if_neg hq]
    refine ⟨h, ?_⟩
    by_cases h2 : l.length < 2
    · exact .inl h2
    · exact .inr fun e => hq ⟨by omega, e⟩
theorem near_right (c : Cm) : rightC (nearC c) = true := by
  obtain ⟨h1, h2⟩ := near2_ok (c.parents.take 2) (by simp; omega)
  have h3 : (nearC c).note.length ≤ 30 := by simp [nearC]; omega
  simp only [rightC, Bool.and_eq_true, Bool.or_eq_true, decide_eq_true_eq]
  exact ⟨⟨h1, h3⟩, h2⟩
/-- the next key -/
def keyN (st : Int × List UInt8) : K32 × (Int × List UInt8) := (BA.of 32 (eyeRaw st 32).1, (eyeRaw st 32).2)
def keysN : Nat → (Int × List UInt8) → List K32 × (Int × List UInt8)
  | 0, st => ([], st)
  | n + 1, st => ((keyN st).1 :: (keysN n (keyN st).2).1, (keysN n (keyN st).2).2)
def zeroC : Cm := ⟨BA.zero 32, [], []⟩
/-- what is behind the mark -/
def decB (st : Int × List UInt8) : Cm × (Int × List UInt8) :=
  (⟨(keyN st).1, (keysN (eyeNum (keyN st).2 2).1.toNat (eyeNum (keyN st).2 2).2).1, (eyeText (keysN (eyeNum (keyN st).2 2).1.toNat (eyeNum (keyN st).2 2).2).2 30).1⟩,
    (eyeText (keysN (eyeNum (keyN st).2 2).1.toNat (eyeNum (keyN st).2 2).2).2 30).2)
def okD (p : List UInt8) : Bool := decide ((eyeRaw (0, p) 2).1 = [75, 49]) && (decide (eyeEnd (decB (eyeRaw (0, p) 2).2).2 = 0) && rightC (decB (eyeRaw (0, p) 2).2).1)
def decC (p : List UInt8) : Cm := if okD p = true then (decB (eyeRaw (0, p) 2).2).1 else zeroC
theorem eyeRaw_len (st : Int × List UInt8) (n : Int) : (eyeRaw st n).2.2.length ≤ st.2.length := by
  unfold eyeRaw; split
  · exact Nat.le_refl _
  · split
    · simp
    · simp
theorem getN_rest : ∀ (l : List UInt8) (i u : Nat) (most : Int), (getN l i u most).2.2.length ≤ l.length
  | [], _, _, _ => by simp [getN]
  | b :: r, i, u, most => by
    rw [getN]
    split
    · simp
    · split
      · exact Nat.le_trans (getN_rest r _ _ _) (by simp)
      · split <;> simp
theorem eyeNum_len' (st : Int × List UInt8) (most : Int) : (eyeNum st most).2.2.length ≤ st.2.length := by
  unfold eyeNum; split
  · exact getN_rest _ _ _ _
  · exact Nat.le_refl _
theorem keysN_len : ∀ (n : Nat) (st : Int × List UInt8), (keysN n st).2.2.length ≤ st.2.length ∧ (keysN n st).1.length = n
  | 0, st => ⟨Nat.le_refl _, rfl⟩
  | n + 1, st => by
    have ⟨h1, h2⟩ := keysN_len n (keyN st).2
    exact ⟨Nat.le_trans h1 (eyeRaw_len st 32), by rw [keysN, List.length_cons, h2]⟩
theorem getN_most : ∀ (l : List UInt8) (i u : Nat) (most : Int), 0 ≤ (getN l i u most).1 ∧ (getN l i u most).1 ≤ max most 0
  | [], _, _, _ => by simp [getN]; omega
  | b :: r, i, u, most => by
    rw [getN]
    split
    · simp; omega
    · split
      · exact getN_most r _ _ _
      · split
        · simp; omega
        · simp only; omega
theorem eyeNum_most (st : Int × List UInt8) (most : Int) : 0 ≤ (eyeNum st most).1 ∧ (eyeNum st most).1 ≤ max most 0 := by
  unfold eyeNum; split
  · exact getN_most _ _ _ _
  · simp; omega
theorem fillC (l : List UInt8) (h : l.length = 32) (z : Array Value) (hz : z = ⟨cmC (BA.zero 32) (.slice none 0 0) (sv [])⟩) :
    Instr.fill (fun i => ([(0, 32), (32, 1), (33, 1)] : List (Nat × Nat))[i]?) z [(0, .agg ⟨bs l⟩)] = some ⟨bs l ++ [.slice none 0 0, sv []]⟩ := by
  subst hz
  rw [fill_step (off := 0) (size := 32) (us := bs l) rfl rfl (by rw [bs_length, h]) (by rw [cmC_len]; omega), Instr.fill]
  congr 2
end Go.Sl
