/- The rules of charts, as plain things. -/
import Derived.Test.YtckdkncmkpoghaaWirePure
set_option linter.unusedVariables false
namespace Go.Sl

instance : Row cellsE 10 := ⟨fun _ => rfl, cellsE_one⟩
def okB (e : El) : Bool := [e.parent, e.order, e.src, e.dst].all (fun n => decide (0 ≤ n) && decide (n ≤ 1048576)) && [e.name, e.event, e.guard, e.action].all (fun t => decide (t.length ≤ 12)) && decide (1 ≤ e.id) && decide (e.id ≤ 1048576)
theorem okB_iff (e : El) : okB e = true ↔ OkE e := by
  simp only [okB, Bool.and_eq_true, List.all_eq_true, decide_eq_true_eq, OkE]
  exact ⟨fun h => ⟨h.1.1.1, h.1.1.2, h.1.2, h.2⟩, fun h => ⟨⟨⟨h.1, h.2.1⟩, h.2.2.1⟩, h.2.2.2⟩⟩
def risesB : List El → Bool
  | x :: y :: r => decide (x.id < y.id) && risesB (y :: r)
  | _ => true
theorem risesB_iff : ∀ (l : List El), risesB l = true ↔ Rises l
  | [] => ⟨fun _ j x y h => by simp at h, fun _ => rfl⟩
  | [x] => ⟨fun _ j x y h h2 => by simp at h2, fun _ => rfl⟩
  | x :: y :: r => by
    rw [risesB, Bool.and_eq_true, decide_eq_true_eq, risesB_iff (y :: r)]
    constructor
    · rintro ⟨h1, h2⟩ j a b ha hb
      cases j with
      | zero => simp at ha hb; subst ha; subst hb; exact h1
      | succ j => exact h2 j a b (by simpa using ha) (by simpa using hb)
    · intro h
      exact ⟨h 0 x y rfl rfl, fun j a b ha hb => h (j + 1) a b (by simpa using ha) (by simpa using hb)⟩
def rightB (c : List El) : Bool := c.all okB && decide (c.length ≤ 40) && risesB c
theorem rightB_iff (c : List El) : rightB c = true ↔ RightC c := by
  simp only [rightB, Bool.and_eq_true, List.all_eq_true, decide_eq_true_eq, risesB_iff, RightC]
  constructor
  · rintro ⟨⟨h1, h2⟩, h3⟩
    exact ⟨fun e he => (okB_iff e).1 (h1 e he), h2, h3⟩
  · rintro ⟨h1, h2, h3⟩
    exact ⟨⟨fun e he => (okB_iff e).2 (h1 e he), h2⟩, h3⟩

def findE (c : List El) (id : Int) : Option El := c.find? fun e => decide (e.id = id)
/-- the place of an element; below 0: it isn't there -/
def findI : List El → Int → Nat → Int
  | [], _, _ => -1
  | e :: r, id, i => if e.id = id then (i : Int) else findI r id (i + 1)
def namedE (e : El) : Bool := decide (e.kind = 1) || decide (e.kind = 2)
def kindE (c : List El) (id : Int) : UInt8 := match findE c id with | some e => e.kind | none => 0
theorem findI_spec : ∀ (c : List El) (id : Int) (i : Nat), (findI c id i = -1 ∧ findE c id = none) ∨ (∃ k e, findI c id i = ((i + k : Nat) : Int) ∧ c[k]? = some e ∧ findE c id = some e)
  | [], id, i => .inl ⟨rfl, rfl⟩
  | x :: r, id, i => by
    by_cases h : x.id = id
    · exact .inr ⟨0, x, by rw [findI, if_pos h]; rfl, rfl, by rw [findE, List.find?_cons, decide_eq_true h]⟩
    · have e1 : findE (x :: r) id = findE r id := by rw [findE, List.find?_cons, decide_eq_false h]; rfl
      rcases findI_spec r id (i + 1) with ⟨q1, q2⟩ | ⟨k, e, q1, q2, q3⟩
      · exact .inl ⟨by rw [findI, if_neg h, q1], by rw [e1, q2]⟩
      · exact .inr ⟨k + 1, e, by rw [findI, if_neg h, q1]; omega, q2, by rw [e1, q3]⟩
def endsE (e : El) : Bool := decide (e.src ≠ 0) || decide (e.dst ≠ 0) || decide (e.event ≠ []) || decide (e.guard ≠ []) || decide (e.action ≠ [])
def ringE (c : List El) (id : Int) : Nat → Int → Bool
  | 0, _ => false
  | n + 1, a => decide (a = id) || match findE c a with | some x => ringE c id n x.parent | none => false
def brk2 (e : El) : Bool := decide (e.kind < 1) || decide (5 < e.kind) || (decide (e.kind ≠ 5) && endsE e) || (decide (e.kind = 5) && (decide (e.parent ≠ 0) || decide (e.name ≠ []))) || (decide (2 < e.kind) && decide (e.name ≠ []))
def hit3 (e x : El) : Bool := namedE e && namedE x && decide (x.id ≠ e.id) && decide (x.parent = e.parent) && decide (x.name = e.name)
def brk3 (c : List El) (e : El) : Bool := c.any (hit3 e) || (namedE e && decide (e.name = []))
def brk4 (c : List El) (e : El) : Bool := if e.kind = 2 then decide (e.parent = 0) || decide (kindE c e.parent ≠ 1) else decide (e.parent ≠ 0) && decide (kindE c e.parent ≠ 1) && decide (kindE c e.parent ≠ 2)
def brk5 (c : List El) (e : El) : Bool := ringE c e.id c.length e.parent
def brk6 (c : List El) (e : El) : Bool := decide (e.kind = 5) && (decide (kindE c e.src ≠ 1) || (decide (kindE c e.dst ≠ 1) && decide (kindE c e.dst ≠ 3) && decide (kindE c e.dst ≠ 4)))
def hit7 (e x : El) : Bool := decide (e.kind = 5) && decide (x.kind = 5) && decide (x.id ≠ e.id) && decide (x.src = e.src) && decide (x.order = e.order)
def brk7 (c : List El) (e : El) : Bool := c.any (hit7 e)
def brk8 (c : List El) (e : El) : Bool := c.any (fun x => decide (x.parent = e.id) && decide (x.kind = 2)) && c.any (fun x => decide (x.parent = e.id) && decide (x.kind ≠ 2))
/-- does an element break a rule? -/
def brkE (c : List El) (e : El) (r : Nat) : Bool := match r with
  | 2 => brk2 e
  | 3 => brk3 c e
  | 4 => brk4 c e
  | 5 => brk5 c e
  | 6 => brk6 c e
  | 7 => brk7 c e
  | _ => brk8 c e
/-- the first of some elements that breaks a rule -/
def hitE (c : List El) (r : Nat) : List El → Option Int
  | [] => none
  | e :: l => if brkE c e r then some e.id else hitE c r l
/-- so many rules are looked at yet, from one on -/
def checkL (c : List El) : Nat → Nat → Int × Int
  | 0, _ => (0, 0)
  | n + 1, r => match hitE c r c with
    | some id => ((r : Int), id)
    | none => checkL c n (r + 1)
/-- the first rule that is broken, and the element -/
def checkR (c : List El) : Int × Int := if rightB c then checkL c 7 2 else (1, 0)
theorem checkR_right {c : List El} (h : checkR c = (0, 0)) : RightC c := by
  rw [← rightB_iff]
  unfold checkR at h
  cases hb : rightB c with
  | true => rfl
  | false => rw [hb] at h; simp at h
theorem checkR_nil : checkR [] = (0, 0) := by decide
theorem hitE_none {c : List El} {r : Nat} : ∀ {l : List El}, hitE c r l = none ↔ ∀ e ∈ l, brkE c e r = false
  | [] => by simp [hitE]
  | e :: l => by
    rw [hitE]
    by_cases h : brkE c e r = true
    · simp [h]
    · have h' : brkE c e r = false := by simpa using h
      rw [if_neg h, hitE_none]
      simp [h']
theorem hitE_drop {c : List El} {r i : Nat} {e : El} {l : List El} (h : l[i]? = some e) : hitE c r (l.drop i) = if brkE c e r then some e.id else hitE c r (l.drop (i + 1)) := by
  have hlt : i < l.length := (List.getElem?_eq_some_iff.1 h).1
  rw [List.drop_eq_getElem_cons hlt, hitE, show l[i] = e from (List.getElem?_eq_some_iff.1 h).2]
theorem any_drop {p : El → Bool} {i : Nat} {e : El} {l : List El} (h : l[i]? = some e) : (l.drop i).any p = (p e || (l.drop (i + 1)).any p) := by
  have hlt : i < l.length := (List.getElem?_eq_some_iff.1 h).1
  rw [List.drop_eq_getElem_cons hlt, List.any_cons, show l[i] = e from (List.getElem?_eq_some_iff.1 h).2]
theorem all_drop {α : Type} {p : α → Bool} {i : Nat} {e : α} {l : List α} (h : l[i]? = some e) : (l.drop i).all p = (p e && (l.drop (i + 1)).all p) := by
  have hlt : i < l.length := (List.getElem?_eq_some_iff.1 h).1
  rw [List.drop_eq_getElem_cons hlt, List.all_cons, show l[i] = e from (List.getElem?_eq_some_iff.1 h).2]
theorem checkL_zero {c : List El} : ∀ {n r : Nat}, 0 < r → (checkL c n r).1 = 0 → checkL c n r = (0, 0)
  | 0, r, _, _ => rfl
  | n + 1, r, hr, h => by
    rw [checkL] at h ⊢
    cases hq : hitE c r c with
    | some id => rw [hq] at h; simp only at h; omega
    | none => rw [hq] at h; exact checkL_zero (by omega) h
theorem checkR_zero {c : List El} (h : (checkR c).1 = 0) : checkR c = (0, 0) := by
  unfold checkR at h ⊢
  split at h
  · rename_i q; rw [if_pos q]; exact checkL_zero (by omega) h
  · simp at h
theorem rises_lt {c : List El} (h : Rises c) : ∀ (d i : Nat) (x y : El), c[i]? = some x → c[i + d + 1]? = some y → x.id < y.id
  | 0, i, x, y, hx, hy => h i x y hx hy
  | d + 1, i, x, y, hx, hy => by
    have hlt : i + (d + 1) + 1 < c.length := (List.getElem?_eq_some_iff.1 hy).1
    have hz : c[i + d + 1]? = some (c[i + d + 1]'(by omega)) := by simp
    exact Int.lt_trans (rises_lt h d i x _ hx hz) (h (i + d + 1) _ y hz (by rw [show i + d + 1 + 1 = i + (d + 1) + 1 by omega]; exact hy))
theorem rises_lt' {c : List El} (h : Rises c) {i j : Nat} {x y : El} (hij : i < j) (hx : c[i]? = some x) (hy : c[j]? = some y) : x.id < y.id :=
  rises_lt h (j - i - 1) i x y hx (by rw [show i + (j - i - 1) + 1 = j by omega]; exact hy)
/-- where numbers rise an element is found by its number -/
theorem findE_at {c : List El} (h : Rises c) {i : Nat} {x : El} (hx : c[i]? = some x) : findE c x.id = some x := by
  rcases findI_spec c x.id 0 with ⟨_, q⟩ | ⟨k, e, _, q2, q3⟩
  · have := List.find?_eq_none.1 q x (List.mem_of_getElem? hx)
    simp at this
  · have he : e.id = x.id := by have := List.find?_some q3; simpa using this
    rcases Nat.lt_trichotomy i k with g | g | g
    · have := rises_lt' h g hx q2; omega
    · subst g; rw [hx] at q2; cases q2; exact q3
    · have := rises_lt' h g q2 hx; omega
theorem findE_none {c : List El} {id : Int} (h : ∀ (i : Nat) (x : El), c[i]? = some x → x.id ≠ id) : findE c id = none := by
  rw [findE, List.find?_eq_none]
  intro x hx
  obtain ⟨i, hi, rfl⟩ := List.mem_iff_getElem.1 hx
  simpa using h i _ (by simp)
end Go.Sl
