/- A field of a struct of one's own row is written. -/
import Derived.Test.YtnplbpmdehcknaaSl
set_option linter.unusedVariables false
namespace Go.Sl
section
variable {P : Program} {n : Nat} {s w : World} {a : Act} {E : List (Nat × Value)} {L : List HItem} {Q : Exit → Act → World → Prop} {next : Act → World → Prop} {ty : TypeId} {pos : String} {aft : Array Edge} {g : Option (Nat × Bool)}
theorem flatMap_setf {α : Type} {size : Nat} {cells : α → List Value} [Row cells size] : ∀ {l : List α} {j off : Nat} {u u' : α} {c : Value}, l[j]? = some u → off < size → (cells u).set off c = cells u' → (l.flatMap cells).set (j * size + off) c = (l.set j u').flatMap cells
  | [], j, off, u, u', c, hj, _, _ => by simp at hj
  | x :: l, 0, off, u, u', c, hj, ho, hc => by
    simp only [List.getElem?_cons_zero, Option.some.injEq] at hj
    subst hj
    rw [List.flatMap_cons, List.set_cons_zero, List.flatMap_cons, Nat.zero_mul, Nat.zero_add, List.set_append_left _ _ (by rw [Row.len (cells := cells) x]; exact ho), hc]
  | x :: l, j + 1, off, u, u', c, hj, ho, hc => by
    have ih := flatMap_setf (l := l) (j := j) (by simpa using hj) ho hc
    rw [List.flatMap_cons, List.set_cons_succ, List.flatMap_cons, List.set_append_right _ _ (by rw [Row.len (cells := cells) x, Nat.add_mul]; omega), Row.len (cells := cells) x, ← ih]
    congr 2
    rw [Nat.add_mul]; omega
theorem op_storeRf {α : Type} {size : Nat} {cells : α → List Value} [Row cells size] (h : St n s a w E L) {t : TypeId} {x y : Operand} {j off by_ : Nat} {v c : Value} {l : List α} {u : α} (u' : α) (hx : ev E x = some (elP v (j * size + off))) (hy : ev E y = some c) (hs : tsz P t = some (1, by_)) (h1 : c.oneCell' = true)
    (hj : l[j]? = some u) (ho : off < size) (hc : (cells u).set off c = cells u') (it : Nat) (hit : L[it]? = some (OwnM size cells v l))
    (k : ∀ a w, St n s a w E (L.set it (OwnM size cells v (l.set j u'))) → next a w) : (Oper.mk none (.store t x y) ty pos aft g).wp P a w next Q := by
  have hlt : j < l.length := (List.getElem?_eq_some_iff.1 hj).1
  have hb : j * size + off < l.length * size := by
    have : (j + 1) * size ≤ l.length * size := Nat.mul_le_mul_right _ hlt
    rw [Nat.add_mul] at this; omega
  refine op_storeEl h hx hy hs h1 it hit hb (fun a w h => k a w ?_)
  have e : Own size v l.length ((l.flatMap cells).set (j * size + off) c) = OwnM size cells v (l.set j u') := OwnM_eq (by rw [flatMap_setf hj ho hc]) (by simp)
  rw [e] at h; exact h
theorem flatMap_lenf {α : Type} {size : Nat} {cells : α → List Value} [Row cells size] : ∀ (l : List α), (l.flatMap cells).length = l.length * size
  | [] => by simp
  | x :: l => by rw [List.flatMap_cons, List.length_append, flatMap_lenf l, Row.len (cells := cells) x, List.length_cons, Nat.add_mul]; omega
/-- rows of structs that are a call's own -/
theorem St.toOwnM {α : Type} {size : Nat} {cells : α → List Value} [Row cells size] {b N : Nat} {vs : Array Value} {T : TypeId} {fr : Nat × Nat} (h : St n s a w E (Blk b (.cells vs T fr) :: L)) (l : List α) (hf : NF fr vs.size) (hx : vs.toList = l.flatMap cells) (hN : N = l.length) (hm : Nat.ble N maxLen = true) :
    St n s a w E (OwnM size cells (.slice (some ⟨b, 0, none⟩) N N) l :: L) := by
  subst hN
  exact ⟨h.1, h.2.toOwn size l.length hf (Nat.le_of_ble_eq_true hm) hx (by rw [← flatMap_lenf (cells := cells) l, ← hx]; simp)⟩
end
end Go.Sl
