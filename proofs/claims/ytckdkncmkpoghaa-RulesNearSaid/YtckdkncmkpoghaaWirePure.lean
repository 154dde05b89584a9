/- Elements of a chart as plain data; when a chart may have bytes, and which. -/
import Derived.Test.YtckdkncmkpoghaaDigitPure
set_option linter.unusedVariables false
namespace Go.Sl

structure El where
  id : Int
  kind : UInt8
  parent : Int
  order : Int
  name : List UInt8
  src : Int
  dst : Int
  event : List UInt8
  guard : List UInt8
  action : List UInt8
  deriving DecidableEq, Inhabited
def cellsE (e : El) : List Value := [.int .i64 e.id, bv e.kind, .int .i64 e.parent, .int .i64 e.order, sv e.name, .int .i64 e.src, .int .i64 e.dst, sv e.event, sv e.guard, sv e.action]
def cellsC (l : List El) : List Value := l.flatMap cellsE
theorem cellsE_len (e : El) : (cellsE e).length = 10 := rfl
theorem cellsC_len (l : List El) : (cellsC l).length = l.length * 10 := by
  induction l with
  | nil => rfl
  | cons e l ih =>
    show (cellsE e ++ cellsC l).length = _
    rw [List.length_append, ih, cellsE_len, List.length_cons]; omega
theorem cellsC_at : ∀ (l : List El) (i : Nat) (e : El), l[i]? = some e → ((cellsC l).drop (i * 10)).take 10 = cellsE e
  | [], i, e, h => by simp at h
  | x :: l, 0, e, h => by
    simp only [List.getElem?_cons_zero, Option.some.injEq] at h
    subst h
    show ((cellsE x ++ cellsC l).drop 0).take 10 = _
    rw [List.drop_zero, List.take_left' (cellsE_len x)]
  | x :: l, i + 1, e, h => by
    have := cellsC_at l i e (by simpa using h)
    show ((cellsE x ++ cellsC l).drop ((i + 1) * 10)).take 10 = _
    rw [show (i + 1) * 10 = 10 + i * 10 by omega, ← List.drop_drop, List.drop_left' (cellsE_len x), this]
theorem cellsE_one (e : El) : ∀ u ∈ cellsE e, u.oneCell' = true := by
  intro u hu
  simp only [cellsE, List.mem_cons, List.not_mem_nil, or_false] at hu
  rcases hu with rfl | rfl | rfl | rfl | rfl | rfl | rfl | rfl | rfl | rfl <;> rfl

def Rises (l : List El) : Prop := ∀ j x y, l[j]? = some x → l[j + 1]? = some y → x.id < y.id
def OkE (e : El) : Prop := (∀ n ∈ [e.parent, e.order, e.src, e.dst], 0 ≤ n ∧ n ≤ 1048576) ∧ (∀ t ∈ [e.name, e.event, e.guard, e.action], t.length ≤ 12) ∧ 1 ≤ e.id ∧ e.id ≤ 1048576
def RightC (l : List El) : Prop := (∀ e ∈ l, OkE e) ∧ l.length ≤ 40 ∧ Rises l

/-- the bytes of an element, behind one of a number -/
def encE (last : Int) (e : El) : List UInt8 :=
  numN (e.id - last).toNat ++ numN e.kind.toNat ++ numN e.parent.toNat ++ numN e.order.toNat ++ numN e.src.toNat ++ numN e.dst.toNat ++
    (numN e.name.length ++ e.name) ++ (numN e.event.length ++ e.event) ++ (numN e.guard.length ++ e.guard) ++ (numN e.action.length ++ e.action)
def encEs : Int → List El → List UInt8
  | _, [] => []
  | last, e :: l => encE last e ++ encEs e.id l
def lastId (last : Int) (l : List El) : Int := match l.getLast? with | some e => e.id | none => last
theorem lastId_snoc (last : Int) (l : List El) (e : El) : lastId last (l ++ [e]) = e.id := by simp [lastId]
theorem encEs_snoc : ∀ (l : List El) (last : Int) (e : El), encEs last (l ++ [e]) = encEs last l ++ encE (lastId last l) e
  | [], last, e => by simp [encEs, lastId]
  | x :: l, last, e => by
    have hl : lastId last (x :: l) = lastId x.id l := by
      cases l with
      | nil => rfl
      | cons y l => simp [lastId, List.getLast?_cons]
    simp only [List.cons_append, encEs, encEs_snoc l x.id e, hl, List.append_assoc]
def encC (l : List El) : List UInt8 := [67, 49] ++ numN l.length ++ encEs 0 l
theorem encE_len (last : Int) (e : El) (h : OkE e) (h0 : 0 ≤ last) : (encE last e).length ≤ 150 := by
  obtain ⟨h1, h2, h3, h4⟩ := h
  simp only [List.mem_cons, List.not_mem_nil, or_false, forall_eq_or_imp, forall_eq] at h1 h2
  obtain ⟨⟨p1, p2⟩, ⟨p3, p4⟩, ⟨p5, p6⟩, p7, p8⟩ := h1
  obtain ⟨q1, q2, q3, q4⟩ := h2
  have hk := e.kind.toNat_lt
  have a1 := numN_len9 (e.id - last).toNat (by omega)
  have a2 := numN_len9 e.kind.toNat (by omega)
  have a3 := numN_len9 e.parent.toNat (by omega)
  have a4 := numN_len9 e.order.toNat (by omega)
  have a5 := numN_len9 e.src.toNat (by omega)
  have a6 := numN_len9 e.dst.toNat (by omega)
  have a7 := numN_len9 e.name.length (by omega)
  have a8 := numN_len9 e.event.length (by omega)
  have a9 := numN_len9 e.guard.length (by omega)
  have a10 := numN_len9 e.action.length (by omega)
  simp only [encE, List.length_append]
  omega
theorem lastId_ok (l : List El) (h : ∀ e ∈ l, OkE e) : 0 ≤ lastId 0 l ∧ lastId 0 l ≤ 1048576 := by
  unfold lastId
  cases hg : l.getLast? with
  | none => simp
  | some e =>
    have := (h e (List.mem_of_getLast? hg)).2.2
    simp only; omega
theorem encEs_len (l : List El) (h : ∀ e ∈ l, OkE e) : (encEs 0 l).length ≤ 150 * l.length := by
  have key : ∀ (l : List El) (last : Int), (∀ e ∈ l, OkE e) → 0 ≤ last → (encEs last l).length ≤ 150 * l.length := by
    intro l
    induction l with
    | nil => intro last _ _; simp [encEs]
    | cons e l ih =>
      intro last h h0
      have h1 := encE_len last e (h e List.mem_cons_self) h0
      have h2 := ih e.id (fun x hx => h x (List.mem_cons_of_mem _ hx)) (by have := (h e List.mem_cons_self).2.2; omega)
      simp only [encEs, List.length_append, List.length_cons]; omega
  exact key l 0 h (by omega)
/-- where numbers rise, an element's is above the last one ahead of it -/
theorem rises_last {l : List El} (hR : Rises l) {i : Nat} {e : El} (he : l[i]? = some e) (h1 : 1 ≤ e.id) : lastId 0 (l.take i) < e.id := by
  cases i with
  | zero => simp [lastId]; omega
  | succ i =>
    have hlt : i + 1 < l.length := (List.getElem?_eq_some_iff.1 he).1
    have hi : l[i]? = some (l[i]'(by omega)) := by simp
    have := hR i _ e hi he
    have ht : l.take (i + 1) = l.take i ++ [l[i]'(by omega)] := by rw [List.take_add_one, hi]; rfl
    rw [ht, lastId_snoc]; exact this
end Go.Sl
