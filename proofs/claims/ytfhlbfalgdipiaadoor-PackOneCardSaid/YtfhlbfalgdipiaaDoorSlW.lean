/- A small library for walks, part W: rows of bytes of one length; structs that bear such a row, read and written by the cell. No statement is proved here. -/
import Derived.Test.YtfhlbfalgdipiaaDoorSlV
set_option linter.unusedVariables false
set_option linter.unusedSimpArgs false
namespace Go.Sl

/-- so many bytes -/
structure BA (n : Nat) where
  val : List UInt8
  len : val.length = n
@[simp] theorem BA.len' {n : Nat} (x : BA n) : x.val.length = n := x.len
theorem BA.ext' {n : Nat} {x y : BA n} (h : x.val = y.val) : x = y := by cases x; cases y; simp at h; subst h; rfl
theorem BA.inj {n : Nat} {x y : BA n} : x.val = y.val ↔ x = y := ⟨BA.ext', fun h => by rw [h]⟩
instance {n : Nat} : DecidableEq (BA n) := fun x y => if h : x.val = y.val then isTrue (BA.ext' h) else isFalse fun q => h (by rw [q])
instance {n : Nat} : Inhabited (BA n) := ⟨⟨List.replicate n 0, by simp⟩⟩
def BA.zero (n : Nat) : BA n := ⟨List.replicate n 0, by simp⟩
/-- bytes with noughts behind them -/
def BA.of (n : Nat) (p : List UInt8) : BA n := ⟨p.take n ++ List.replicate (n - p.length) 0, by simp; omega⟩
theorem BA.of_val {n : Nat} {p : List UInt8} (h : p.length = n) : (BA.of n p).val = p := by
  show p.take n ++ _ = _
  rw [List.take_of_length_le (by omega), h]; simp
def cellsA {n : Nat} (x : BA n) : List Value := bs x.val
instance {n : Nat} : Row (cellsA (n := n)) n := ⟨fun x => by rw [cellsA, bs_length, x.len], fun x => bs_one _⟩

/-- one part of a struct that is written out -/
theorem fill_step {place : Nat → Option (Nat × Nat)} {cs us : List Value} {i off size : Nat} {v : Value} {rest : List (Nat × Value)} (hp : place i = some (off, size)) (hv : v.cells = ⟨us⟩) (hu : us.length = size) (hl : off + size ≤ cs.length) :
    Instr.fill place ⟨cs⟩ ((i, v) :: rest) = Instr.fill place ⟨cs.take off ++ us ++ cs.drop (off + size)⟩ rest := by
  have hvs : v.cells.size = size := by rw [hv]; exact hu
  rw [Instr.fill]
  simp only [hp]
  rw [if_neg (by rw [hvs]; simp; exact hl)]
  have hf : v.cells.zipIdx.foldl (fun cs (x : Value × Nat) => cs.setIfInBounds (off + x.2) x.1) (⟨cs⟩ : Array Value) = ⟨cs.take off ++ us ++ cs.drop (off + size)⟩ := by
    apply Array.ext'
    have := cells_zipIdx off us 0 ⟨cs⟩ (by show off + 0 + us.length ≤ cs.length; omega)
    rw [hv, ← Array.foldl_toList, Array.toList_zipIdx]
    simp only [Nat.add_zero, hu] at this
    exact this
  exact congrArg (fun q => Instr.fill place q rest) hf
theorem splice_zero (n : Nat) (m : List UInt8) : splice ⟨bs (List.replicate n 0)⟩ 0 (bs (m.take n)) = ⟨cellsA (BA.of n m)⟩ := by
  have e : (bs (m.take n)).length = min n m.length := by rw [bs_length, List.length_take]
  unfold splice
  rw [e]
  show (([] : List Value) ++ bs (m.take n) ++ (bs (List.replicate n 0)).drop (0 + min n m.length)).toArray = (bs (m.take n ++ List.replicate (n - m.length) 0)).toArray
  rw [bs_append, List.nil_append, Nat.zero_add, bs_drop, List.drop_replicate, show n - min n m.length = n - m.length by omega]

/-- a cell of a row of cells, found by the row's form -/
class CellAt (vs : List Value) (o : Nat) (v : outParam Value) : Prop where
  get : vs[o]? = some v
class SetAt (vs : List Value) (o : Nat) (v : Value) (vs' : outParam (List Value)) : Prop where
  lt : o < vs.length
  set : vs.set o v = vs'

theorem flatMap_take {α : Type} {size : Nat} {cells : α → List Value} [Row cells size] : ∀ (l : List α) (k : Nat), (l.flatMap cells).take (k * size) = (l.take k).flatMap cells
  | l, 0 => by simp
  | [], k + 1 => by simp
  | x :: l, k + 1 => by
    rw [List.flatMap_cons, List.take_succ_cons, List.flatMap_cons, Nat.add_mul, Nat.one_mul, Nat.add_comm, List.take_append, Row.len (size := size) x, Nat.add_sub_cancel_left, flatMap_take l k, List.take_of_length_le (by rw [Row.len (size := size) x]; omega)]

section
variable {P : Program} {n : Nat} {s w : World} {a : Act} {E : List (Nat × Value)} {L : List HItem} {Q : Exit → Act → World → Prop} {next : Act → World → Prop}
variable {d : Nat} {dst : Option Nat} {ty : TypeId} {pos : String} {aft : Array Edge} {g : Option (Nat × Bool)}

theorem r_elMd {α : Type} [Inhabited α] {size : Nat} {cells : α → List Value} [Row cells size] (h : St n s a w E L) {t : TypeId} {x : Operand} {j by_ N : Nat} {v : Value} {l : List α} {dd : TypeDesc} (hx : ev E x = some (elP v (j * size))) (hu : P.underlying t = some dd) (hf : TypeDesc.flat dd = false) (hs : tsz P t = some (size, by_))
    (h0 : Nat.blt 0 size = true) (hv : Views L size v N (l.flatMap cells)) (hj : j < l.length) : (execOp a.eval ⟨dst, .load t x, ty, pos, aft, g⟩).run P w = .ok (.value (.agg ⟨cells (l.getD j default)⟩)) w :=
  r_elM h hx hu hf hs h0 hv (by rw [List.getD_eq_getElem?_getD, List.getElem?_eq_getElem hj]; rfl)
theorem r_ldC (h : St n s a w E L) {t : TypeId} {x : Operand} {b o : Nat} {dd : TypeDesc} {vs : List Value} {v : Value} [CellAt vs o v] (hx : ev E x = some (.pointer (some ⟨b, o, none⟩))) (hu : P.underlying t = some dd) (hf : TypeDesc.flat dd = true) (i : Nat) {T : TypeId} {fr : Nat × Nat}
    (hi : L[i]? = some (Blk b (.cells ⟨vs⟩ T fr))) : (execOp a.eval ⟨dst, .load t x, ty, pos, aft, g⟩).run P w = .ok (.value v) w :=
  r_load h hx hu hf i hi (by simpa using CellAt.get)
theorem op_storeC (h : St n s a w E L) {t : TypeId} {x y : Operand} {b o by_ : Nat} {v : Value} {vs vs' : List Value} [hc : SetAt vs o v vs'] (hx : ev E x = some (.pointer (some ⟨b, o, none⟩))) (hy : ev E y = some v) (hs : tsz P t = some (1, by_)) (h1 : v.oneCell' = true)
    (i : Nat) {T : TypeId} (hi : L[i]? = some (Blk b (.cells ⟨vs⟩ T)))
    (k : ∀ a w, St n s a w E (L.set i (Blk b (.cells ⟨vs'⟩ T))) → next a w) : (Oper.mk none (.store t x y) ty pos aft g).wp P a w next Q :=
  op_storeN h hx hy hs h1 i hi (Nat.ble_eq_true_of_le hc.lt) fun a w h => k a w (by rw [hc.set] at h; exact h)
/-- the array of bytes that a block begins with -/
theorem r_ldH8 (h : St n s a w E L) {t : TypeId} {x : Operand} {b sz by_ : Nat} {dd : TypeDesc} (hx : ev E x = some (.pointer (some ⟨b, 0, none⟩))) (hu : P.underlying t = some dd) (hf : TypeDesc.flat dd = false) (hs : tsz P t = some (sz, by_)) (i : Nat) {m : List UInt8} {r : List Value} {T : TypeId} {fr : Nat × Nat}
    (hi : L[i]? = some (Blk b (.cells ⟨bs m ++ r⟩ T fr))) (hl : m.length = sz) : (execOp a.eval ⟨dst, .load t x, ty, pos, aft, g⟩).run P w = .ok (.value (.agg (arr8 m))) w :=
  r_loadAgg h hx hu hf hs i hi (us := bs m) (by show ((bs m ++ r).drop 0).take sz = _; rw [List.drop_zero, List.take_left' (by rw [bs_length, hl])]) (by rw [bs_length, hl])
/-- the bytes that a block begins with, through a slice of them -/
theorem ViewsB.head {b N cap : Nat} {l : List UInt8} {r : List Value} {T : TypeId} {fr : Nat × Nat} (i : Nat) (hi : L[i]? = some (Blk b (.cells ⟨bs l ++ r⟩ T fr))) (hl : l.length = N) (hc : N ≤ cap) (hm : cap ≤ maxLen) : ViewsB L (.slice (some ⟨b, 0, none⟩) N cap) l := by
  subst hl
  exact Views.blk i hi (Nat.ble_eq_true_of_le hc) (Nat.ble_eq_true_of_le hm) (by
    show ((bs l ++ r).drop 0).take (l.length * 1) = bs l
    rw [List.drop_zero, Nat.mul_one, List.take_left' (bs_length l)]) (by rw [bs_length, Nat.mul_one])
end
end Go.Sl
