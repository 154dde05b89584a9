/- Disks as plain things: sectors, what was written, what an act does. -/
import Derived.Test.YtnplbpmdehcknaaSl
set_option linter.unusedVariables false
namespace Go.Sl

/-- a sector -/
structure B64 where
  val : List UInt8
  len : val.length = 64
@[simp] theorem B64.len' (x : B64) : x.val.length = 64 := x.len
theorem B64.ext' {x y : B64} (h : x.val = y.val) : x = y := by cases x; cases y; simp at h; subst h; rfl
/-- bytes with noughts behind them -/
def B64.of (p : List UInt8) : B64 := ⟨p.take 64 ++ List.replicate (64 - p.length) 0, by simp; omega⟩
theorem B64.of_val {p : List UInt8} (h : p.length ≤ 64) : (B64.of p).val = p ++ List.replicate (64 - p.length) 0 := by
  show p.take 64 ++ _ = _
  rw [List.take_of_length_le h]
def B64.zero : B64 := ⟨List.replicate 64 0, by simp⟩
def cells8 (x : B64) : List Value := bs x.val
theorem cells8_len (x : B64) : (cells8 x).length = 64 := by rw [cells8, bs_length, x.len]
/-- a sector that was written: which one, its bytes -/
def cellsW (x : Nat × B64) : List Value := .int .i64 (x.1 : Int) :: bs x.2.val
theorem cellsW_len (x : Nat × B64) : (cellsW x).length = 65 := by rw [cellsW, List.length_cons, bs_length, x.2.len]
theorem cells8_one (x : B64) : ∀ u ∈ cells8 x, u.oneCell' = true := bs_one _
theorem cellsW_one (x : Nat × B64) : ∀ u ∈ cellsW x, u.oneCell' = true := by
  intro u hu
  simp only [cellsW, List.mem_cons] at hu
  rcases hu with rfl | hu
  · rfl
  · exact bs_one _ u hu

instance : Row cells8 64 := ⟨cells8_len, cells8_one⟩
instance : Row cellsW 65 := ⟨cellsW_len, cellsW_one⟩

structure Dk where
  safe : List B64
  wet : List (Nat × B64)
  left : Int
  off : Bool
  acts : Int

namespace Dk
def ok (D : Dk) : Prop := (∀ q ∈ D.wet, q.1 < D.safe.length) ∧ D.safe.length ≤ 4096 ∧ -1 ≤ D.left ∧ D.left ≤ 9223372036854775807 ∧ (D.wet.length : Int) ≤ D.acts ∧ D.acts ≤ 1000000000
def new (n : Nat) : Dk := ⟨List.replicate n B64.zero, [], -1, false, 0⟩
def act (D : Dk) : Dk := if D.off then D else if D.left = 0 then { D with acts := D.acts + 1, off := true } else { D with acts := D.acts + 1, left := max (D.left - 1) (-1) }
def goes (D : Dk) : Bool := !D.off && decide (D.left ≠ 0)
def write (D : Dk) (i : Nat) (p : List UInt8) : Dk := if D.off then D else { D.act with wet := D.wet ++ [(i, B64.of p)] }
def keepL (wants : Nat → Bool) : Nat → List (Nat × B64) → List B64 → List B64
  | _, [], S => S
  | i, q :: l, S => keepL wants (i + 1) l (if wants i then S.set q.1 q.2 else S)
def keep (D : Dk) (wants : Nat → Bool) : Dk := { D with safe := keepL wants 0 D.wet D.safe, wet := [] }
def flush (D : Dk) : Dk := if D.goes then D.act.keep (fun _ => true) else D.act
def arm (D : Dk) (n : Int) : Dk := { D with left := max n (-1) }
/-- the bit of a mask -/
def bit (m : List UInt8) (i : Nat) : Bool := decide (0 < m.length) && decide (UInt8.ofNat ((m.getD (i / 8 % m.length) 0).toNat / 2 ^ (i % 8)) &&& 1 = 1)
def crash (D : Dk) (m : List UInt8) : Dk := { D.keep (bit m) with off := false, left := -1 }
def look : List (Nat × B64) → Nat → B64 → B64
  | [], _, b => b
  | q :: l, i, b => look l i (if q.1 = i then q.2 else b)
def read (D : Dk) (i : Nat) : B64 := look D.wet i (D.safe.getD i B64.zero)
def eRead (D : Dk) (i : Int) : Int := if i < 0 ∨ (D.safe.length : Int) ≤ i then 1 else if D.off = true then 9 else 0
def vRead (D : Dk) (i : Int) : List UInt8 := if (i < 0 ∨ (D.safe.length : Int) ≤ i) ∨ D.off = true then [] else (D.read i.toNat).val
/-- what an act tells -/
def eWrite (D : Dk) (i : Int) (p : List UInt8) : Int := if i < 0 ∨ (D.safe.length : Int) ≤ i ∨ 64 < p.length then 1 else if D.goes then 0 else 9
def write' (D : Dk) (i : Int) (p : List UInt8) : Dk := if i < 0 ∨ (D.safe.length : Int) ≤ i ∨ 64 < p.length then D else D.write i.toNat p

theorem keepL_len (wants : Nat → Bool) : ∀ (l : List (Nat × B64)) (i : Nat) (S : List B64), (keepL wants i l S).length = S.length
  | [], _, _ => rfl
  | q :: l, i, S => by rw [keepL, keepL_len]; split <;> simp
theorem act_ok {D : Dk} (h : D.ok) (hb : D.acts < 1000000000) : D.act.ok ∧ D.act.safe = D.safe ∧ D.act.wet = D.wet := by
  obtain ⟨h1, h2, h3, h4, h5, h6⟩ := h
  unfold act
  split
  · exact ⟨⟨h1, h2, h3, h4, h5, h6⟩, rfl, rfl⟩
  · split
    · exact ⟨⟨h1, h2, h3, h4, by show (D.wet.length : Int) ≤ D.acts + 1; omega, by show D.acts + 1 ≤ 1000000000; omega⟩, rfl, rfl⟩
    · exact ⟨⟨h1, h2, by show -1 ≤ max (D.left - 1) (-1); omega, by show max (D.left - 1) (-1) ≤ _; omega, by show (D.wet.length : Int) ≤ D.acts + 1; omega, by show D.acts + 1 ≤ 1000000000; omega⟩, rfl, rfl⟩
end Dk
end Go.Sl
