/- A small library for walks, part N: rows of bytes that are made, copied into, and written. No statement is proved here. -/
import Derived.Test.YtfhlbfalgdipiaaDoorSlM
set_option linter.unusedVariables false
set_option linter.unusedSimpArgs false
namespace Go.Sl
section
variable {P : Program} {n : Nat} {s w : World} {a : Act} {E : List (Nat × Value)} {L : List HItem} {Q : Exit → Act → World → Prop} {next : Act → World → Prop}
variable {d : Nat} {dst : Option Nat} {ty : TypeId} {pos : String} {aft : Array Edge} {g : Option (Nat × Bool)}

theorem ViewsB.cell {v : Value} {l : List UInt8} (hv : ViewsB L v l) {s w : World} (hs : Sat s w L) {j : Nat} {u : UInt8} (hu : l[j]? = some u) :
    ∃ g o cap, v = .slice (some ⟨g, o, none⟩) l.length cap ∧ CellsAt L ⟨g, o + j * 1, none⟩ [bv u] := by
  have hlt : j < l.length := (List.getElem?_eq_some_iff.1 hu).1
  refine Views.cell hv hs hlt ?_
  have : (bs l)[j]? = some (bv u) := by simp [bs, hu]
  rw [Nat.mul_one, List.drop_eq_getElem_cons (by simpa [bs] using hlt), (List.getElem?_eq_some_iff.1 this).2]
  simp
theorem Views.cell1 {v : Value} {N : Nat} {xs : List Value} (hv : Views L 1 v N xs) {s w : World} (hs : Sat s w L) {j : Nat} {u : Value} (hu : xs[j]? = some u) :
    ∃ g o cap, v = .slice (some ⟨g, o, none⟩) N cap ∧ CellsAt L ⟨g, o + j * 1, none⟩ [u] := by
  have hlen := hv.length hs
  have hlt : j < xs.length := (List.getElem?_eq_some_iff.1 hu).1
  refine Views.cell hv hs (by omega) ?_
  rw [Nat.mul_one, List.drop_eq_getElem_cons hlt, (List.getElem?_eq_some_iff.1 hu).2]
  simp
theorem op_makeSliceb (h : St n s a w E L) {t el : TypeId} {x y : Operand} {k1 k2 : IntKind} {c1 c2 : Int} {by_ : Nat} (hu : P.underlying t = some (.slice el)) (hs : tsz P el = some (1, by_)) (hz : tzero P el = some (.int .u8 0)) (hx : ev E x = some (.int k1 c1)) (hy : ev E y = some (.int k2 c2))
    (N M : Nat) (hN : c1 = (N : Int)) (hM : c2 = (M : Int)) (hNM : N ≤ M) (hM2 : M ≤ 4294967296) (hby : Nat.ble by_ 4096 = true) (hd : Nat.blt d n = true)
    (k : ∀ v a w, St n s a w ((d, v) :: E) (OwnB v (List.replicate N 0) :: L) → next a w) :
    (Oper.mk (some d) (.makeSlice t x y) ty pos aft g).wp P a w next Q := by
  refine op_makeSlice h hu hs hz hx hy N M hN hM hNM hM2 hby rfl hd (fun v a w h => k v a w ?_)
  have e : Own 1 v N ((List.range (N * 1)).map fun j => (Value.int .u8 0).cells[j % (Value.int .u8 0).cells.size]!) = OwnB v (List.replicate N 0) := by
    refine OwnB_eq ?_ (by simp)
    have hc : (Value.int .u8 0).cells = #[Value.int .u8 0] := rfl
    rw [hc]
    apply List.ext_getElem?
    intro i
    simp only [bs, Nat.mul_one, List.getElem?_map, List.getElem?_range, List.getElem?_replicate]
    by_cases hi : i < N
    · simp [hi, bv, Nat.mod_one]
    · simp [hi]
  rw [e] at h; exact h
/-- bytes copied over the first of one's own -/
theorem op_copyb (h : St n s a w E L) {t t2 el : TypeId} {x y : Operand} {by_ : Nat} {v vx : Value} {l m : List UInt8} (hx : ev E x = some v) (hy : ev E y = some vx) (hu : P.underlying t = some (.slice el)) (hs : tsz P el = some (1, by_)) (i : Nat) (hi : L[i]? = some (OwnB v l))
    (hm : ViewsB L vx m) (hd : Nat.blt d n = true)
    (k : ∀ a w, St n s a w ((d, .int .i64 ((min m.length l.length : Nat) : Int)) :: E) (L.set i (OwnB v (m.take l.length ++ l.drop m.length))) → next a w) :
    (Oper.mk (some d) (.call { callee := .builtin .copy, args := #[x, y], argTypes := #[t, t2] }) ty pos aft g).wp P a w next Q := by
  refine op_copy (m := m.length) (news := bs m) h hx hy hu hs i hi ?_ ?_ (by simp [bs]) (bs_one m) (fun a w h => k a w ?_) (fun d' e => by cases e; exact hd)
  · intro w'
    obtain ⟨A, cap, rfl, _⟩ := Views.shape hm h.2
    rfl
  · intro s' w' hs'
    exact RDh.cells P (hm _ hs'.2.2.2) _ (Nat.min_le_left _ _)
  · have e : Own 1 v l.length ((bs m).take (min m.length l.length * 1) ++ (bs l).drop (min m.length l.length * 1)) = OwnB v (m.take l.length ++ l.drop m.length) := by
      refine OwnB_eq ?_ (by simp only [List.length_append, List.length_take, List.length_drop]; omega)
      rw [Nat.mul_one, bs_take, bs_drop, bs_append]
      by_cases hml : m.length ≤ l.length
      · rw [Nat.min_eq_left hml, List.take_length, List.take_of_length_le hml]
      · rw [Nat.min_eq_right (by omega), List.drop_length, List.drop_eq_nil_iff.2 (by omega)]
    rw [e] at h; exact h
/-- a byte of one's own is written -/
theorem op_storeb (h : St n s a w E L) {t : TypeId} {x y : Operand} {b o q N cap by_ : Nat} {u : UInt8} {v : Value} {l : List UInt8} (hx : ev E x = some (.pointer (some ⟨b, q, none⟩))) (hy : ev E y = some (bv u)) (hs : tsz P t = some (1, by_))
    (it : Nat) (hit : L[it]? = some (OwnB v l)) (hv : v = .slice (some ⟨b, o, none⟩) N cap) (j : Nat) (hq : q = o + j) (hj : j < l.length)
    (k : ∀ a w, St n s a w E (L.set it (OwnB v (l.set j u))) → next a w) : (Oper.mk none (.store t x y) ty pos aft g).wp P a w next Q := by
  have hN : N = l.length := by
    obtain ⟨A, cap', e, _⟩ := Views.shape (ViewsB.own it hit) h.2
    rw [hv] at e; cases e; rfl
  subst hN
  subst hv
  refine op_storeOwn h hx hy hs rfl it hit j hq (by omega) (fun a w h => k a w ?_)
  have e : Own 1 (.slice (some ⟨b, o, none⟩) l.length cap) l.length ((bs l).set j (bv u)) = OwnB (.slice (some ⟨b, o, none⟩) l.length cap) (l.set j u) :=
    OwnB_eq (by simp [bs, List.map_set]) (by simp)
  rw [e] at h; exact h
/-- a guarded call that is passed by, in the shape of one that isn't -/
theorem wvsx {ops : Array Oper} {rest : List Oper} {op : Op} (h : St n s a w E L) {j : Nat} {b : Bool} (hj : gvNot ops E j b = true) (hd : Nat.blt d n = true)
    (k : ∀ (_ : Unit) a w, True → St n s a w ((d, undef) :: E) L → wpList P ops Q rest a w) : wpList P ops Q (Oper.mk (some d) op ty pos aft (some (j, b)) :: rest) a w :=
  wvs h hj hd fun a w h => k () a w trivial h
end
end Go.Sl
