/- What PackErrs rests on, part 1 of 6: the small library for walks, contracts of functions, plain laws. No statement is proved here. -/
import Derived.WalkKit
import Derived.Below
import Derived.Lib.Strings
import Derived.Lib.ConvBytes
import Derived.Lib.AppendStr
import Derived.Deep.Quiet
import Derived.OrdersHeld
import Derived.ProofKit
import Derived.OpenShut
import Derived.ShutString
import Derived.SliceStrings
import Derived.Lib.LaidTab
import Derived.Laws.StructEq
set_option linter.unusedVariables false
set_option linter.unusedSimpArgs false
/- A small library for walks, part A: heap items that lie apart. No statement is proved here. -/
namespace Go.Sl

/-! ### Partial heaps, items, separation -/
abbrev HM := Nat → Option Obj

def HM.le (h h' : HM) : Prop := ∀ b o, h b = some o → h' b = some o

structure HItem where
  P : HM → Prop
  mono : ∀ h h', HM.le h h' → P h → P h'

def restr (D : Nat → Bool) (h : HM) : HM := fun b => if D b then h b else none

theorem restr_mono {D : Nat → Bool} {h h' : HM} (hl : HM.le h h') : HM.le (restr D h) (restr D h') := by
  intro b o hb
  simp only [restr] at hb ⊢
  split at hb
  · rename_i hD; rw [if_pos hD]; exact hl b o hb
  · cases hb

theorem restr_le {D : Nat → Bool} {h : HM} : HM.le (restr D h) h := by
  intro b o hb
  unfold restr at hb
  split at hb
  · exact hb
  · cases hb

def sepL : List HItem → HM → Prop
  | [], _ => True
  | I :: L, h => ∃ D : Nat → Bool, I.P (restr D h) ∧ sepL L (restr (fun b => !D b) h)

theorem sepL_mono : ∀ (L : List HItem) {h h' : HM}, HM.le h h' → sepL L h → sepL L h'
  | [], _, _, _, _ => trivial
  | I :: L, h, h', hl, ⟨D, hI, hL⟩ => ⟨D, I.mono _ _ (restr_mono hl) hI, sepL_mono L (restr_mono hl) hL⟩

theorem sepL_swap {I J : HItem} {L : List HItem} {h : HM} (hs : sepL (I :: J :: L) h) : sepL (J :: I :: L) h := by
  obtain ⟨D, hI, D', hJ, hL⟩ := hs
  refine ⟨fun b => !D b && D' b, ?_, D, ?_, ?_⟩
  · refine J.mono _ _ ?_ hJ
    intro b o hb
    simp only [restr] at hb ⊢
    split at hb <;> simp_all
  · refine I.mono _ _ ?_ hI
    intro b o hb
    simp only [restr] at hb ⊢
    split at hb <;> simp_all
  · refine sepL_mono L ?_ hL
    intro b o hb
    simp only [restr] at hb ⊢
    split at hb <;> simp_all

theorem sepL_front : ∀ (L : List HItem) (i : Nat) (I : HItem) (h : HM), L[i]? = some I → sepL L h → sepL (I :: L.eraseIdx i) h
  | [], _, _, _, e, _ => by simp at e
  | J :: L, 0, I, h, e, hs => by simp at e; subst e; exact hs
  | J :: L, i + 1, I, h, e, ⟨D, hJ, hL⟩ => by
    have := sepL_front L i I _ (by simpa using e) hL
    simp only [List.eraseIdx_cons_succ]
    exact sepL_swap ⟨D, hJ, this⟩

theorem sepL_back : ∀ (L : List HItem) (i : Nat) (I : HItem) (h : HM), i ≤ L.length → sepL (I :: L) h → sepL (L.insertIdx i I) h
  | L, 0, I, h, _, hs => by simpa using hs
  | [], i + 1, I, h, e, _ => by simp at e
  | J :: L, i + 1, I, h, e, hs => by
    obtain ⟨D, hJ, hL⟩ := sepL_swap hs
    rw [List.insertIdx_succ_cons]
    exact ⟨D, hJ, sepL_back L i I _ (by simpa using e) hL⟩

theorem sepL_drop : ∀ (k : Nat) (L : List HItem) (h : HM), sepL L h → sepL (L.drop k) h
  | 0, L, h, hs => by simpa using hs
  | k + 1, [], h, _ => by simp [sepL]
  | k + 1, J :: L, h, ⟨D, hJ, hL⟩ => by
    rw [List.drop_succ_cons]
    exact sepL_drop k L h (sepL_mono L restr_le hL)

theorem sepL_tail {I : HItem} {L : List HItem} {h : HM} (hs : sepL (I :: L) h) : sepL L h := sepL_drop 1 (I :: L) h hs

theorem sepL_append_left : ∀ (L M : List HItem) (h : HM), sepL (L ++ M) h → sepL L h
  | [], _, _, _ => trivial
  | J :: L, M, h, ⟨D, hJ, hL⟩ => ⟨D, hJ, sepL_append_left L M _ hL⟩

/-- setting the item at place i -/
theorem set_eq : ∀ (L : List HItem) (i : Nat) (I : HItem), i < L.length → (L.eraseIdx i).insertIdx i I = L.set i I
  | [], _, _, h => by simp at h
  | J :: L, 0, I, _ => by simp
  | J :: L, i + 1, I, h => by
    simp only [List.eraseIdx_cons_succ, List.set_cons_succ]
    rw [List.insertIdx_succ_cons, set_eq L i I (by simpa using h)]

theorem sepL_set {L : List HItem} {i : Nat} {I : HItem} {h : HM} (hi : i < L.length) (hs : sepL (I :: L.eraseIdx i) h) : sepL (L.set i I) h := by
  rw [← set_eq L i I hi]
  exact sepL_back _ _ _ _ (by rw [List.length_eraseIdx]; split <;> omega) hs


def hmOf (w : World) : HM := fun b => w.heap[b]?

/-- the world w bears the items L, apart from one another; its streams are those of the world s -/
def Sat (s w : World) (L : List HItem) : Prop := w.os = s.os ∧ w.tape = s.tape ∧ w.output = s.output ∧ sepL L (hmOf w)

theorem Sat.front {s w : World} {L : List HItem} (hs : Sat s w L) (i : Nat) {I : HItem} (e : L[i]? = some I) : Sat s w (I :: L.eraseIdx i) :=
  ⟨hs.1, hs.2.1, hs.2.2.1, sepL_front L i I _ e hs.2.2.2⟩

theorem Sat.back {s w : World} {L : List HItem} {I : HItem} (hs : Sat s w (I :: L)) (i : Nat) (hi : i ≤ L.length) : Sat s w (L.insertIdx i I) :=
  ⟨hs.1, hs.2.1, hs.2.2.1, sepL_back L i I _ hi hs.2.2.2⟩

theorem Sat.drop {s w : World} {L : List HItem} (hs : Sat s w L) (k : Nat) : Sat s w (L.drop k) :=
  ⟨hs.1, hs.2.1, hs.2.2.1, sepL_drop k L _ hs.2.2.2⟩

theorem Sat.tail {s w : World} {I : HItem} {L : List HItem} (hs : Sat s w (I :: L)) : Sat s w L := hs.drop 1

/-- a world that differs in what is drawn alone -/
theorem Sat.congr {s w w' : World} {L : List HItem} (hs : Sat s w L) (h1 : w'.heap = w.heap) (h2 : w'.os = w.os) (h3 : w'.tape = w.tape) (h4 : w'.output = w.output) : Sat s w' L := by
  obtain ⟨a, b, c, d⟩ := hs
  exact ⟨h2.trans a, h3.trans b, h4.trans c, by unfold hmOf; rw [h1]; exact d⟩

theorem Sat.refl (w : World) : Sat w w [] := ⟨rfl, rfl, rfl, trivial⟩

/-! ### Items -/
/-- block b holds the object o -/
def Blk (b : Nat) (o : Obj) : HItem := ⟨fun h => h b = some o, fun _ _ hl h => hl _ _ h⟩

theorem Sat.blk {s w : World} {L : List HItem} (hs : Sat s w L) (i : Nat) {b : Nat} {o : Obj} (e : L[i]? = some (Blk b o)) : w.heap[b]? = some o := by
  obtain ⟨D, hI, _⟩ := (hs.front i e).2.2.2
  exact restr_le b o hI

theorem heap_lt {w : World} {b : Nat} {o : Obj} (h : w.heap[b]? = some o) : b < w.heap.size := (Array.getElem?_eq_some_iff.1 h).1

/-- one block turns: the item that spoke of it speaks of it anew -/
theorem sepL_turn {L : List HItem} {h h' : HM} {b : Nat} {o o' : Obj} (hs : sepL (Blk b o :: L) h) (hb : h' b = some o') (hr : ∀ k, k ≠ b → h' k = h k) : sepL (Blk b o' :: L) h' := by
  obtain ⟨D, hI, hL⟩ := hs
  have hD : D b = true := by
    have : restr D h b = some o := hI
    simp only [restr] at this
    split at this
    · assumption
    · cases this
  refine ⟨D, ?_, sepL_mono L ?_ hL⟩
  · show restr D h' b = some o'
    simp [restr, hD, hb]
  · intro k u hk
    simp only [restr] at hk ⊢
    split at hk
    · rename_i hk'
      rw [if_pos hk']
      have : k ≠ b := by intro e; subst e; simp [hD] at hk'
      rw [hr k this]; exact hk
    · cases hk

theorem sepL_more {L : List HItem} {h h' : HM} {b : Nat} {o : Obj} (hs : sepL L h) (hn : h b = none) (hb : h' b = some o) (hr : ∀ k, k ≠ b → h' k = h k) : sepL (Blk b o :: L) h' := by
  refine ⟨fun k => k == b, ?_, sepL_mono L ?_ hs⟩
  · show restr _ h' b = some o
    simp [restr, hb]
  · intro k u hk
    have : k ≠ b := by intro e; subst e; rw [hn] at hk; cases hk
    simp only [restr]
    rw [if_pos (by simpa using this), hr k this]
    exact hk

theorem Sat.alloc {s w : World} {L : List HItem} (hs : Sat s w L) (o : Obj) : Sat s (w.alloc o) (Blk w.heap.size o :: L) := by
  refine ⟨hs.1, hs.2.1, hs.2.2.1, sepL_more (h := hmOf w) hs.2.2.2 ?_ ?_ ?_⟩
  · simp [hmOf]
  · exact heap_alloc_new w o
  · intro k hk
    show (w.heap.push o)[k]? = w.heap[k]?
    rw [Array.getElem?_push, if_neg hk]

theorem Sat.turn {s w w' : World} {L : List HItem} {b : Nat} {o o' : Obj} (hs : Sat s w (Blk b o :: L)) (h2 : w'.os = w.os) (h3 : w'.tape = w.tape) (h4 : w'.output = w.output)
    (hb : w'.heap[b]? = some o') (hr : ∀ k, k ≠ b → w'.heap[k]? = w.heap[k]?) : Sat s w' (Blk b o' :: L) :=
  ⟨h2.trans hs.1, h3.trans hs.2.1, h4.trans hs.2.2.1, sepL_turn hs.2.2.2 hb hr⟩

/-- all that lay below N when a call began -/
def Base (W : World) : HItem := ⟨fun h => ∀ b, b < W.heap.size → h b = W.heap[b]?, fun _ _ hl h b hb => by
  have := h b hb
  rw [Array.getElem?_eq_getElem hb] at this ⊢
  exact hl _ _ this⟩

theorem Sat.base (W : World) : Sat W W [Base W] :=
  ⟨rfl, rfl, rfl, fun _ => true, fun b _ => by simp [restr, hmOf], trivial⟩

theorem Sat.below {W w : World} {L : List HItem} (hs : Sat W w L) (i : Nat) (e : L[i]? = some (Base W)) : RowKit.Below W.heap.size W w := by
  obtain ⟨D, hI, _⟩ := (hs.front i e).2.2.2
  have hb : ∀ b, b < W.heap.size → w.heap[b]? = W.heap[b]? := by
    intro b hb
    have h := hI b hb
    rw [Array.getElem?_eq_getElem hb] at h ⊢
    exact restr_le b _ h
  refine ⟨hs.1, hs.2.1, hs.2.2.1, ?_, hb⟩
  by_cases hz : W.heap.size = 0
  · omega
  · have h := hb (W.heap.size - 1) (by omega)
    rw [Array.getElem?_eq_getElem (by omega : W.heap.size - 1 < W.heap.size)] at h
    have := heap_lt h
    omega

end Go.Sl

/- A small library for walks, part B: frames and code. No statement is proved here. -/
namespace Go.Sl

/-! ### The frame of a call: what is known of its slots -/
def lk : List (Nat × Value) → Nat → Option Value
  | [], _ => none
  | (d, v) :: E, t => bif Nat.beq d t then some v else lk E t

def Env (n : Nat) (a : Act) (E : List (Nat × Value)) : Prop := a.tmps.size = n ∧ a.defers = [] ∧ ∀ t v, lk E t = some v → a.tmps[t]? = some v

def ev (E : List (Nat × Value)) : Operand → Option Value
  | .tmp t => lk E t
  | .const v => some v
  | .global g => some (.pointer (some ⟨g, 0, none⟩))
  | .func f => some (.func (.func f) #[] #[])

theorem Env.ev {n : Nat} {a : Act} {E : List (Nat × Value)} (h : Env n a E) {x : Operand} {v : Value} (hx : ev E x = some v) : a.eval x = v := by
  cases x with
  | tmp t =>
    have := h.2.2 t v hx
    simp [Act.eval, Array.getD_eq_getD_getElem?, this]
  | const u => exact Option.some.inj hx
  | global g => exact Option.some.inj hx
  | func f => exact Option.some.inj hx

theorem Env.put {n : Nat} {a : Act} {E : List (Nat × Value)} (h : Env n a E) {d : Nat} (hd : Nat.blt d n = true) (v : Value) : Env n (a.put (some d) v) ((d, v) :: E) := by
  have hd' : d < n := Nat.le_of_ble_eq_true hd
  refine ⟨by simpa [Act.put] using h.1, h.2.1, ?_⟩
  intro t u hu
  simp only [lk] at hu
  by_cases e : d = t
  · subst e
    have hb : Nat.beq d d = true := Nat.beq_refl d
    rw [hb] at hu
    simp only [cond_true, Option.some.injEq] at hu
    subst hu
    simp [Act.put, h.1, hd']
  · have hb : Nat.beq d t = false := by cases hh : Nat.beq d t with | false => rfl | true => exact absurd (Nat.eq_of_beq_eq_true hh) e
    rw [hb] at hu
    have := h.2.2 t u hu
    simp only [Act.put]
    rw [Array.getElem?_setIfInBounds_ne e]
    exact this

theorem Env.put_none {n : Nat} {a : Act} {E : List (Nat × Value)} (h : Env n a E) (v : Value) : Env n (a.put none v) E := h

def pickE (E : List (Nat × Value)) : List Nat → List (Nat × Value)
  | [] => []
  | t :: ts => match lk E t with
    | some v => (t, v) :: pickE E ts
    | none => pickE E ts

theorem lk_pickE (E : List (Nat × Value)) : ∀ (ts : List Nat) (t : Nat) (v : Value), lk (pickE E ts) t = some v → lk E t = some v
  | [], t, v, h => by simp [pickE, lk] at h
  | u :: ts, t, v, h => by
    simp only [pickE] at h
    cases e : lk E u with
    | none => rw [e] at h; exact lk_pickE E ts t v h
    | some x =>
      rw [e] at h
      simp only [lk] at h
      cases hb : Nat.beq u t with
      | true =>
        rw [hb] at h
        simp only [cond_true, Option.some.injEq] at h
        have := Nat.eq_of_beq_eq_true hb
        subst this; subst h; exact e
      | false => rw [hb] at h; exact lk_pickE E ts t v h

/-- the state of a walk: the frame's slots, the world's items -/
def St (n : Nat) (s : World) (a : Act) (w : World) (E : List (Nat × Value)) (L : List HItem) : Prop := Env n a E ∧ Sat s w L

theorem St.keep {n : Nat} {s : World} {a : Act} {w : World} {E : List (Nat × Value)} {L : List HItem} (h : St n s a w E L) (ts : List Nat) : St n s a w (pickE E ts) L :=
  ⟨⟨h.1.1, h.1.2.1, fun t v hv => h.1.2.2 t v (lk_pickE E ts t v hv)⟩, h.2⟩

theorem St.front {n : Nat} {s : World} {a : Act} {w : World} {E : List (Nat × Value)} {L : List HItem} (h : St n s a w E L) (i : Nat) {I : HItem} (e : L[i]? = some I) : St n s a w E (I :: L.eraseIdx i) :=
  ⟨h.1, h.2.front i e⟩
theorem St.drop {n : Nat} {s : World} {a : Act} {w : World} {E : List (Nat × Value)} {L : List HItem} (h : St n s a w E L) (k : Nat) : St n s a w E (L.drop k) := ⟨h.1, h.2.drop k⟩
theorem St.mem {n : Nat} {s : World} {a : Act} {w : World} {E : List (Nat × Value)} {L L' : List HItem} (h : St n s a w E L) (f : Sat s w L → Sat s w L') : St n s a w E L' := ⟨h.1, f h.2⟩

def argsE : Nat → List Value → List (Nat × Value)
  | _, [] => []
  | i, v :: vs => (i, v) :: argsE (i + 1) vs

theorem lk_argsE : ∀ (i : Nat) (vs : List Value) (t : Nat) (v : Value), lk (argsE i vs) t = some v → i ≤ t ∧ vs[t - i]? = some v
  | _, [], _, _, h => by simp [argsE, lk] at h
  | i, u :: vs, t, v, h => by
    simp only [argsE, lk] at h
    cases hb : Nat.beq i t with
    | true =>
      rw [hb] at h
      have := Nat.eq_of_beq_eq_true hb
      subst this
      simp at h
      simp [h]
    | false =>
      rw [hb] at h
      have ⟨h1, h2⟩ := lk_argsE (i + 1) vs t v h
      refine ⟨by omega, ?_⟩
      have : t - i = (t - (i + 1)) + 1 := by omega
      rw [this]
      simpa using h2

section
variable {P : Program} {n : Nat} {s w : World} {a : Act} {E : List (Nat × Value)} {L : List HItem}

theorem enter {f : FuncId} {fn : Func} {c : Code} {args : Array Value} {R : Ending → World → Prop} (hf : P.funcs[f]? = some fn) (hb : fn.body = some c) (hn : fn.ntmps = n)
    (hs : Nat.ble args.size n = true) (hw : Sat s w L) (h : ∀ a w, St n s a w (argsE 0 args.toList) L → c.wp P (bodyPost P fn R) a w) : Calls P f args w R := by
  refine calls_of_wp hf hb (h _ _ ⟨⟨?_, rfl, ?_⟩, hw⟩)
  · have : args.size ≤ n := by simpa using hs
    simp [hn]; omega
  · intro t v hv
    have ⟨_, h2⟩ := lk_argsE 0 args.toList t v hv
    simp only [Nat.sub_zero, Array.getElem?_toList] at h2
    have hlt : t < args.size := (Array.getElem?_eq_some_iff.1 h2).1
    show (args ++ _)[t]? = some v
    rw [Array.getElem?_append_left hlt]
    exact h2

/-! ### Code -/
variable {Q : Exit → Act → World → Prop} {K : Act → World → Prop}

theorem c_seq {x y : Code} (h : x.wp P (Exit.then (y.wp P Q) Q) a w) : (Code.seq x y).wp P Q a w := wp_seq h
theorem c_region {id : Nat} {l : List Oper} (h : wpList P l.toArray Q l a w) : (Code.region id l.toArray false).wp P Q a w := wp_region_lit h
theorem c_then {x : Exit → Act → World → Prop} (h : K a w) : Exit.then K x .normal a w := h
theorem c_skip (h : Q .normal a w) : Code.skip.wp P Q a w := wp_skip h
theorem c_ret (h : Q .ret a w) : Code.ret.wp P Q a w := wp_ret h
theorem c_exit {i : Nat} (h : Q (.exit i) a w) : (Code.exit i).wp P Q a w := wp_exit h
theorem c_block {i : Nat} {c : Code} (h : c.wp P (Exit.inBlock i Q) a w) : (Code.block i c).wp P Q a w := wp_block h

theorem c_cond (h : St n s a w E L) {c : Operand} {x y : Code} {t : Bool} (hc : ev E c = some (.bool t)) (ht : t = true → x.wp P Q a w) (hf : t = false → y.wp P Q a w) : (Code.cond c x y).wp P Q a w :=
  wp_cond_split (h.1.ev hc) ht hf
theorem c_condD (h : St n s a w E L) {c : Operand} {x y : Code} {p : Prop} {_ : Decidable p} (hc : ev E c = some (.bool (decide p))) (ht : p → x.wp P Q a w) (hf : ¬ p → y.wp P Q a w) : (Code.cond c x y).wp P Q a w :=
  wp_cond_split (h.1.ev hc) (fun h => ht (of_decide_eq_true h)) (fun h => hf (of_decide_eq_false h))
theorem c_true (h : St n s a w E L) {c : Operand} {x y : Code} (hc : ev E c = some (.bool true)) (ht : x.wp P Q a w) : (Code.cond c x y).wp P Q a w :=
  wp_cond_true (h.1.ev hc) ht
theorem c_false (h : St n s a w E L) {c : Operand} {x y : Code} (hc : ev E c = some (.bool false)) (ht : y.wp P Q a w) : (Code.cond c x y).wp P Q a w :=
  wp_cond_false (h.1.ev hc) ht

/-- a loop, by a state x of which the slots, the items and a measure are told -/
theorem c_loop {X : Type} {c : Code} (E' : X → List (Nat × Value)) (L' : X → List HItem) (φ : X → Prop) (m : X → Nat) (x : X) (h : St n s a w (E' x) (L' x)) (h0 : φ x)
    (round : ∀ x a w, φ x → St n s a w (E' x) (L' x) → c.wp P (Exit.then (fun a' w' => ∃ x', St n s a' w' (E' x') (L' x') ∧ φ x' ∧ m x' < m x) Q) a w) : (Code.loop c).wp P Q a w := by
  intro b k cs
  have key : ∀ j x a w, m x = j → φ x → St n s a w (E' x) (L' x) →
      ∃ e a' w', Q e a' w' ∧ Arrives P (lone (b.at a (.code c :: .inLoop c :: k)) cs w) b k cs e a' w' := by
    intro j
    induction j using Nat.strongRecOn with
    | _ j ih =>
      intro x a w hm hφ hS
      obtain ⟨e, a1, w1, hq, harr⟩ := round x a w hφ hS b (.inLoop c :: k) cs
      cases e with
      | normal =>
        obtain ⟨x', hS', hφ', hlt⟩ := hq
        obtain ⟨e2, a2, w2, hq2, harr2⟩ := ih (m x') (hm ▸ hlt) x' a1 w1 rfl hφ' hS'
        exact ⟨e2, a2, w2, hq2, .of_steps (Steps.trans harr (.one step_inLoop)) harr2⟩
      | exit id => exact ⟨_, a1, w1, hq, .pass (x := .inLoop c) rfl (fun _ _ => .inl (by simp)) harr⟩
      | goto l => exact ⟨_, a1, w1, hq, .pass (x := .inLoop c) rfl (fun _ _ => .inl (by simp)) harr⟩
      | ret => exact ⟨_, a1, w1, hq, .pass (x := .inLoop c) rfl (fun _ _ => .inl (by simp)) harr⟩
      | panic ch => exact ⟨_, a1, w1, hq, .pass (x := .inLoop c) rfl (fun _ _ => .inl (by simp)) harr⟩
      | outgrown => exact ⟨_, a1, w1, hq, .pass (x := .inLoop c) rfl (fun _ _ => .inl (by simp)) harr⟩
  obtain ⟨e, a', w', hq, harr⟩ := key _ x a w rfl h0 h
  exact ⟨e, a', w', hq, .of_steps (.one step_loop) harr⟩

end
end Go.Sl

/- A small library for walks, part C: binary operations on integers, texts and truth values. No statement is proved here. -/
namespace Go.Sl

/-! ### Values of fixed kinds -/
def bv (x : UInt8) : Value := .int .u8 (x.toNat : Int)
def w16 (x : UInt16) : Value := .int .u16 (x.toNat : Int)
def w32 (x : UInt32) : Value := .int .u32 (x.toNat : Int)
def w64 (x : UInt64) : Value := .int .u64 (x.toNat : Int)
def bs (l : List UInt8) : List Value := l.map bv
/-- a text of these bytes -/
def sv (l : List UInt8) : Value := .string ⟨⟨l⟩⟩

theorem wrap_i64 (n : Int) (h1 : -9223372036854775808 ≤ n) (h2 : n ≤ 9223372036854775807) : IntKind.i64.wrap n = n := by
  simp only [IntKind.wrap, IntKind.signed, IntKind.bits]
  simp
  omega

/-- what a binary operation on two integers of one kind comes to -/
def BinR (op : BinOp) (k : IntKind) (x : Int) (k' : IntKind) (y : Int) (v : Value) : Prop := ∀ (P : Program) (t : TypeId) (w : World), (binOp op t (.int k x) (.int k' y)).run P w = .ok v w
namespace B

theorem wrap_u8 (n : Int) : IntKind.u8.wrap n = ((UInt8.ofInt n).toNat : Int) := by
  simp only [IntKind.wrap, IntKind.signed, IntKind.bits, Bool.false_and, Bool.false_eq_true, if_false]
  simp [UInt8.ofInt, UInt8.toNat_ofNat']
  omega
theorem ofInt_toNat_u8 (x : UInt8) : UInt8.ofInt (x.toNat : Int) = x := by
  apply UInt8.toNat_inj.1
  have h := wrap_u8 (x.toNat : Int)
  have hx : x.toNat < 2 ^ 8 := x.toNat_lt
  simp only [IntKind.wrap, IntKind.signed, IntKind.bits, Bool.false_and, Bool.false_eq_true, if_false] at h
  simp at h
  omega
theorem back_u8 (x : UInt8) : IntKind.u8.wrap (x.toNat : Int) = (x.toNat : Int) := by rw [wrap_u8, ofInt_toNat_u8]
theorem bits_u8 (x : UInt8) : BitVec.ofInt IntKind.u8.bits (x.toNat : Int) = x.toBitVec := by
  apply BitVec.eq_of_toNat_eq
  have hx : x.toNat < 2 ^ 8 := x.toNat_lt
  have : x.toBitVec.toNat = x.toNat := rfl
  simp [IntKind.bits]
theorem add_u8 {x y : UInt8} : BinR .add .u8 x.toNat .u8 y.toNat (bv (x + y)) := by
  intro P t w
  have e : IntKind.u8.wrap ((x.toNat : Int) + y.toNat) = ((x + y).toNat : Int) := by
    rw [UInt8.toNat_add]
    simp only [IntKind.wrap, IntKind.signed, IntKind.bits, Bool.false_and, Bool.false_eq_true, if_false]
    omega
  simp [binOp, Op.intArith, bv, e]
theorem sub_u8 {x y : UInt8} : BinR .sub .u8 x.toNat .u8 y.toNat (bv (x - y)) := by
  intro P t w
  have hy : y.toNat < 2 ^ 8 := y.toNat_lt
  have e : IntKind.u8.wrap ((x.toNat : Int) - y.toNat) = ((x - y).toNat : Int) := by
    rw [UInt8.toNat_sub]
    simp only [IntKind.wrap, IntKind.signed, IntKind.bits, Bool.false_and, Bool.false_eq_true, if_false]
    omega
  simp [binOp, Op.intArith, bv, e]
theorem mul_u8 {x y : UInt8} : BinR .mul .u8 x.toNat .u8 y.toNat (bv (x * y)) := by
  intro P t w
  have e : IntKind.u8.wrap ((x.toNat : Int) * y.toNat) = ((x * y).toNat : Int) := by
    rw [UInt8.toNat_mul]
    simp only [IntKind.wrap, IntKind.signed, IntKind.bits, Bool.false_and, Bool.false_eq_true, if_false]
    rw [← Int.natCast_mul]
    omega
  simp [binOp, Op.intArith, bv, e]
theorem and_u8 {x y : UInt8} : BinR .and .u8 x.toNat .u8 y.toNat (bv (x &&& y)) := by
  intro P t w
  have e : IntKind.u8.wrap (((x.toBitVec &&& y.toBitVec).toNat : Nat) : Int) = ((x &&& y).toNat : Int) := back_u8 (x &&& y)
  simp only [binOp, Op.intBits, bits_u8, ne_eq, not_true_eq_false, if_false, Sem.run_pure, bv]
  exact congrArg (fun z => Result.ok (Value.int .u8 z) w) e
theorem or_u8 {x y : UInt8} : BinR .or .u8 x.toNat .u8 y.toNat (bv (x ||| y)) := by
  intro P t w
  have e : IntKind.u8.wrap (((x.toBitVec ||| y.toBitVec).toNat : Nat) : Int) = ((x ||| y).toNat : Int) := back_u8 (x ||| y)
  simp only [binOp, Op.intBits, bits_u8, ne_eq, not_true_eq_false, if_false, Sem.run_pure, bv]
  exact congrArg (fun z => Result.ok (Value.int .u8 z) w) e
theorem xor_u8 {x y : UInt8} : BinR .xor .u8 x.toNat .u8 y.toNat (bv (x ^^^ y)) := by
  intro P t w
  have e : IntKind.u8.wrap (((x.toBitVec ^^^ y.toBitVec).toNat : Nat) : Int) = ((x ^^^ y).toNat : Int) := back_u8 (x ^^^ y)
  simp only [binOp, Op.intBits, bits_u8, ne_eq, not_true_eq_false, if_false, Sem.run_pure, bv]
  exact congrArg (fun z => Result.ok (Value.int .u8 z) w) e
/-- shifts by a count that is not below 0 -/
theorem shl_u8 {x : UInt8} {k' : IntKind} {c : Int} (hc : 0 ≤ c) : BinR .shl .u8 x.toNat k' c (bv (UInt8.ofNat (x.toNat * 2 ^ c.toNat))) := by
  intro P t w
  have hn : ¬ c < 0 := by omega
  have e : IntKind.u8.wrap ((x.toNat : Int) * 2 ^ (min c.toNat 8)) = ((UInt8.ofNat (x.toNat * 2 ^ c.toNat)).toNat : Int) := by
    simp only [IntKind.wrap, IntKind.signed, IntKind.bits, Bool.false_and, Bool.false_eq_true, if_false, UInt8.toNat_ofNat']
    by_cases h : c.toNat ≤ 8
    · rw [Nat.min_eq_left h]
      have : ((x.toNat : Int) * 2 ^ c.toNat) = ((x.toNat * 2 ^ c.toNat : Nat) : Int) := by push_cast; rfl
      rw [this]
      omega
    · rw [Nat.min_eq_right (by omega)]
      obtain ⟨d, hd⟩ : ∃ d, c.toNat = 8 + d := ⟨c.toNat - 8, by omega⟩
      rw [hd, Nat.pow_add, Nat.mul_comm (2 ^ 8), ← Nat.mul_assoc, Nat.mul_mod_left]
      simp
  simp only [binOp, Op.shift, hn, if_false, IntKind.bits, Sem.run_pure, bv]
  exact congrArg (fun z => Result.ok (Value.int .u8 z) w) e
theorem shr_u8 {x : UInt8} {k' : IntKind} {c : Int} (hc : 0 ≤ c) : BinR .shr .u8 x.toNat k' c (bv (UInt8.ofNat (x.toNat / 2 ^ c.toNat))) := by
  intro P t w
  have hn : ¬ c < 0 := by omega
  have hx : x.toNat < 2 ^ 8 := x.toNat_lt
  have e : ((x.toNat : Int)).fdiv (2 ^ (min c.toNat 8)) = ((UInt8.ofNat (x.toNat / 2 ^ c.toNat)).toNat : Int) := by
    simp only [UInt8.toNat_ofNat']
    have h2 : ((2 : Int) ^ (min c.toNat 8)) = ((2 ^ (min c.toNat 8) : Nat) : Int) := by push_cast; rfl
    rw [h2, Int.fdiv_eq_ediv_of_nonneg _ (Int.natCast_nonneg _), ← Int.natCast_ediv]
    congr 1
    by_cases h : c.toNat ≤ 8
    · rw [Nat.min_eq_left h, Nat.mod_eq_of_lt]
      exact Nat.lt_of_le_of_lt (Nat.div_le_self _ _) hx
    · rw [Nat.min_eq_right (by omega), Nat.div_eq_of_lt hx, Nat.div_eq_of_lt (Nat.lt_of_lt_of_le hx (Nat.pow_le_pow_right (by omega) (by omega)))]
  simp only [binOp, Op.shift, hn, if_false, IntKind.bits, Sem.run_pure, bv]
  exact congrArg (fun z => Result.ok (Value.int .u8 z) w) e
theorem quo_u8 {x y : UInt8} (h : y ≠ 0) : BinR .quo .u8 x.toNat .u8 y.toNat (bv (x / y)) := by
  intro P t w
  have hy : y.toNat ≠ 0 := fun e => h (UInt8.toNat_inj.1 (by simpa using e))
  have hy' : ¬ ((y.toNat : Int) = 0) := by omega
  have e : IntKind.u8.wrap ((x.toNat : Int).tdiv y.toNat) = ((x / y).toNat : Int) := by
    rw [Int.tdiv_eq_ediv_of_nonneg (by omega), ← Int.natCast_ediv, ← UInt8.toNat_div]
    exact back_u8 (x / y)
  simp only [binOp, Op.intDiv, hy', ne_eq, not_true_eq_false, if_false, Sem.run_pure, bv]
  exact congrArg (fun z => Result.ok (Value.int .u8 z) w) e
theorem rem_u8 {x y : UInt8} (h : y ≠ 0) : BinR .rem .u8 x.toNat .u8 y.toNat (bv (x % y)) := by
  intro P t w
  have hy : y.toNat ≠ 0 := fun e => h (UInt8.toNat_inj.1 (by simpa using e))
  have hy' : ¬ ((y.toNat : Int) = 0) := by omega
  have e : ((x.toNat : Int).tmod y.toNat) = ((x % y).toNat : Int) := by
    rw [Int.tmod_eq_emod_of_nonneg (by omega), UInt8.toNat_mod]; rfl
  simp only [binOp, Op.intDiv, hy', ne_eq, not_true_eq_false, if_false, Sem.run_pure, bv]
  exact congrArg (fun z => Result.ok (Value.int .u8 z) w) e
theorem eql_u8 {x y : UInt8} : BinR .eql .u8 x.toNat .u8 y.toNat (.bool (decide (x = y))) := by
  intro P t w
  have e : ((x.toNat : Int) == (y.toNat : Int)) = decide (x = y) := by
    rw [Bool.eq_iff_iff]; simp only [beq_iff_eq, decide_eq_true_eq]
    exact ⟨fun h => UInt8.toNat_inj.1 (by omega), fun h => by rw [h]⟩
  simp only [binOp, Op.intCmp, ne_eq, not_true_eq_false, if_false, Sem.run_pure, e]
theorem neq_u8 {x y : UInt8} : BinR .neq .u8 x.toNat .u8 y.toNat (.bool (decide (x ≠ y))) := by
  intro P t w
  have e : ((x.toNat : Int) != (y.toNat : Int)) = decide (x ≠ y) := by
    rw [Bool.eq_iff_iff]; simp only [bne_iff_ne, decide_eq_true_eq, ne_eq]
    exact ⟨fun h e => h (by rw [e]), fun h e => h (UInt8.toNat_inj.1 (by omega))⟩
  simp only [binOp, Op.intCmp, ne_eq, not_true_eq_false, if_false, Sem.run_pure, e]
theorem lss_u8 {x y : UInt8} : BinR .lss .u8 x.toNat .u8 y.toNat (.bool (decide (x < y))) := by
  intro P t w
  have e : ((x.toNat : Int) < (y.toNat : Int)) = (x < y) := by rw [UInt8.lt_iff_toNat_lt]; simp
  simp only [binOp, Op.intCmp, ne_eq, not_true_eq_false, if_false, Sem.run_pure, e]
theorem leq_u8 {x y : UInt8} : BinR .leq .u8 x.toNat .u8 y.toNat (.bool (decide (x ≤ y))) := by
  intro P t w
  have e : ((x.toNat : Int) ≤ (y.toNat : Int)) = (x ≤ y) := by rw [UInt8.le_iff_toNat_le]; simp
  simp only [binOp, Op.intCmp, ne_eq, not_true_eq_false, if_false, Sem.run_pure, e]
theorem gtr_u8 {x y : UInt8} : BinR .gtr .u8 x.toNat .u8 y.toNat (.bool (decide (y < x))) := by
  intro P t w
  have e : ((x.toNat : Int) > (y.toNat : Int)) = (y < x) := by rw [UInt8.lt_iff_toNat_lt]; simp
  simp only [binOp, Op.intCmp, ne_eq, not_true_eq_false, if_false, Sem.run_pure, e]
theorem geq_u8 {x y : UInt8} : BinR .geq .u8 x.toNat .u8 y.toNat (.bool (decide (y ≤ x))) := by
  intro P t w
  have e : ((x.toNat : Int) ≥ (y.toNat : Int)) = (y ≤ x) := by rw [UInt8.le_iff_toNat_le]; simp
  simp only [binOp, Op.intCmp, ne_eq, not_true_eq_false, if_false, Sem.run_pure, e]

theorem wrap_u16 (n : Int) : IntKind.u16.wrap n = ((UInt16.ofInt n).toNat : Int) := by
  simp only [IntKind.wrap, IntKind.signed, IntKind.bits, Bool.false_and, Bool.false_eq_true, if_false]
  simp [UInt16.ofInt, UInt16.toNat_ofNat']
  omega
theorem ofInt_toNat_u16 (x : UInt16) : UInt16.ofInt (x.toNat : Int) = x := by
  apply UInt16.toNat_inj.1
  have h := wrap_u16 (x.toNat : Int)
  have hx : x.toNat < 2 ^ 16 := x.toNat_lt
  simp only [IntKind.wrap, IntKind.signed, IntKind.bits, Bool.false_and, Bool.false_eq_true, if_false] at h
  simp at h
  omega
theorem back_u16 (x : UInt16) : IntKind.u16.wrap (x.toNat : Int) = (x.toNat : Int) := by rw [wrap_u16, ofInt_toNat_u16]
theorem bits_u16 (x : UInt16) : BitVec.ofInt IntKind.u16.bits (x.toNat : Int) = x.toBitVec := by
  apply BitVec.eq_of_toNat_eq
  have hx : x.toNat < 2 ^ 16 := x.toNat_lt
  have : x.toBitVec.toNat = x.toNat := rfl
  simp [IntKind.bits]
theorem add_u16 {x y : UInt16} : BinR .add .u16 x.toNat .u16 y.toNat (w16 (x + y)) := by
  intro P t w
  have e : IntKind.u16.wrap ((x.toNat : Int) + y.toNat) = ((x + y).toNat : Int) := by
    rw [UInt16.toNat_add]
    simp only [IntKind.wrap, IntKind.signed, IntKind.bits, Bool.false_and, Bool.false_eq_true, if_false]
    omega
  simp [binOp, Op.intArith, w16, e]
theorem sub_u16 {x y : UInt16} : BinR .sub .u16 x.toNat .u16 y.toNat (w16 (x - y)) := by
  intro P t w
  have hy : y.toNat < 2 ^ 16 := y.toNat_lt
  have e : IntKind.u16.wrap ((x.toNat : Int) - y.toNat) = ((x - y).toNat : Int) := by
    rw [UInt16.toNat_sub]
    simp only [IntKind.wrap, IntKind.signed, IntKind.bits, Bool.false_and, Bool.false_eq_true, if_false]
    omega
  simp [binOp, Op.intArith, w16, e]
theorem mul_u16 {x y : UInt16} : BinR .mul .u16 x.toNat .u16 y.toNat (w16 (x * y)) := by
  intro P t w
  have e : IntKind.u16.wrap ((x.toNat : Int) * y.toNat) = ((x * y).toNat : Int) := by
    rw [UInt16.toNat_mul]
    simp only [IntKind.wrap, IntKind.signed, IntKind.bits, Bool.false_and, Bool.false_eq_true, if_false]
    rw [← Int.natCast_mul]
    omega
  simp [binOp, Op.intArith, w16, e]
theorem and_u16 {x y : UInt16} : BinR .and .u16 x.toNat .u16 y.toNat (w16 (x &&& y)) := by
  intro P t w
  have e : IntKind.u16.wrap (((x.toBitVec &&& y.toBitVec).toNat : Nat) : Int) = ((x &&& y).toNat : Int) := back_u16 (x &&& y)
  simp only [binOp, Op.intBits, bits_u16, ne_eq, not_true_eq_false, if_false, Sem.run_pure, w16]
  exact congrArg (fun z => Result.ok (Value.int .u16 z) w) e
theorem or_u16 {x y : UInt16} : BinR .or .u16 x.toNat .u16 y.toNat (w16 (x ||| y)) := by
  intro P t w
  have e : IntKind.u16.wrap (((x.toBitVec ||| y.toBitVec).toNat : Nat) : Int) = ((x ||| y).toNat : Int) := back_u16 (x ||| y)
  simp only [binOp, Op.intBits, bits_u16, ne_eq, not_true_eq_false, if_false, Sem.run_pure, w16]
  exact congrArg (fun z => Result.ok (Value.int .u16 z) w) e
theorem xor_u16 {x y : UInt16} : BinR .xor .u16 x.toNat .u16 y.toNat (w16 (x ^^^ y)) := by
  intro P t w
  have e : IntKind.u16.wrap (((x.toBitVec ^^^ y.toBitVec).toNat : Nat) : Int) = ((x ^^^ y).toNat : Int) := back_u16 (x ^^^ y)
  simp only [binOp, Op.intBits, bits_u16, ne_eq, not_true_eq_false, if_false, Sem.run_pure, w16]
  exact congrArg (fun z => Result.ok (Value.int .u16 z) w) e
/-- shifts by a count that is not below 0 -/
theorem shl_u16 {x : UInt16} {k' : IntKind} {c : Int} (hc : 0 ≤ c) : BinR .shl .u16 x.toNat k' c (w16 (UInt16.ofNat (x.toNat * 2 ^ c.toNat))) := by
  intro P t w
  have hn : ¬ c < 0 := by omega
  have e : IntKind.u16.wrap ((x.toNat : Int) * 2 ^ (min c.toNat 16)) = ((UInt16.ofNat (x.toNat * 2 ^ c.toNat)).toNat : Int) := by
    simp only [IntKind.wrap, IntKind.signed, IntKind.bits, Bool.false_and, Bool.false_eq_true, if_false, UInt16.toNat_ofNat']
    by_cases h : c.toNat ≤ 16
    · rw [Nat.min_eq_left h]
      have : ((x.toNat : Int) * 2 ^ c.toNat) = ((x.toNat * 2 ^ c.toNat : Nat) : Int) := by push_cast; rfl
      rw [this]
      omega
    · rw [Nat.min_eq_right (by omega)]
      obtain ⟨d, hd⟩ : ∃ d, c.toNat = 16 + d := ⟨c.toNat - 16, by omega⟩
      rw [hd, Nat.pow_add, Nat.mul_comm (2 ^ 16), ← Nat.mul_assoc, Nat.mul_mod_left]
      simp
  simp only [binOp, Op.shift, hn, if_false, IntKind.bits, Sem.run_pure, w16]
  exact congrArg (fun z => Result.ok (Value.int .u16 z) w) e
theorem shr_u16 {x : UInt16} {k' : IntKind} {c : Int} (hc : 0 ≤ c) : BinR .shr .u16 x.toNat k' c (w16 (UInt16.ofNat (x.toNat / 2 ^ c.toNat))) := by
  intro P t w
  have hn : ¬ c < 0 := by omega
  have hx : x.toNat < 2 ^ 16 := x.toNat_lt
  have e : ((x.toNat : Int)).fdiv (2 ^ (min c.toNat 16)) = ((UInt16.ofNat (x.toNat / 2 ^ c.toNat)).toNat : Int) := by
    simp only [UInt16.toNat_ofNat']
    have h2 : ((2 : Int) ^ (min c.toNat 16)) = ((2 ^ (min c.toNat 16) : Nat) : Int) := by push_cast; rfl
    rw [h2, Int.fdiv_eq_ediv_of_nonneg _ (Int.natCast_nonneg _), ← Int.natCast_ediv]
    congr 1
    by_cases h : c.toNat ≤ 16
    · rw [Nat.min_eq_left h, Nat.mod_eq_of_lt]
      exact Nat.lt_of_le_of_lt (Nat.div_le_self _ _) hx
    · rw [Nat.min_eq_right (by omega), Nat.div_eq_of_lt hx, Nat.div_eq_of_lt (Nat.lt_of_lt_of_le hx (Nat.pow_le_pow_right (by omega) (by omega)))]
  simp only [binOp, Op.shift, hn, if_false, IntKind.bits, Sem.run_pure, w16]
  exact congrArg (fun z => Result.ok (Value.int .u16 z) w) e
theorem quo_u16 {x y : UInt16} (h : y ≠ 0) : BinR .quo .u16 x.toNat .u16 y.toNat (w16 (x / y)) := by
  intro P t w
  have hy : y.toNat ≠ 0 := fun e => h (UInt16.toNat_inj.1 (by simpa using e))
  have hy' : ¬ ((y.toNat : Int) = 0) := by omega
  have e : IntKind.u16.wrap ((x.toNat : Int).tdiv y.toNat) = ((x / y).toNat : Int) := by
    rw [Int.tdiv_eq_ediv_of_nonneg (by omega), ← Int.natCast_ediv, ← UInt16.toNat_div]
    exact back_u16 (x / y)
  simp only [binOp, Op.intDiv, hy', ne_eq, not_true_eq_false, if_false, Sem.run_pure, w16]
  exact congrArg (fun z => Result.ok (Value.int .u16 z) w) e
theorem rem_u16 {x y : UInt16} (h : y ≠ 0) : BinR .rem .u16 x.toNat .u16 y.toNat (w16 (x % y)) := by
  intro P t w
  have hy : y.toNat ≠ 0 := fun e => h (UInt16.toNat_inj.1 (by simpa using e))
  have hy' : ¬ ((y.toNat : Int) = 0) := by omega
  have e : ((x.toNat : Int).tmod y.toNat) = ((x % y).toNat : Int) := by
    rw [Int.tmod_eq_emod_of_nonneg (by omega), UInt16.toNat_mod]; rfl
  simp only [binOp, Op.intDiv, hy', ne_eq, not_true_eq_false, if_false, Sem.run_pure, w16]
  exact congrArg (fun z => Result.ok (Value.int .u16 z) w) e
theorem eql_u16 {x y : UInt16} : BinR .eql .u16 x.toNat .u16 y.toNat (.bool (decide (x = y))) := by
  intro P t w
  have e : ((x.toNat : Int) == (y.toNat : Int)) = decide (x = y) := by
    rw [Bool.eq_iff_iff]; simp only [beq_iff_eq, decide_eq_true_eq]
    exact ⟨fun h => UInt16.toNat_inj.1 (by omega), fun h => by rw [h]⟩
  simp only [binOp, Op.intCmp, ne_eq, not_true_eq_false, if_false, Sem.run_pure, e]
theorem neq_u16 {x y : UInt16} : BinR .neq .u16 x.toNat .u16 y.toNat (.bool (decide (x ≠ y))) := by
  intro P t w
  have e : ((x.toNat : Int) != (y.toNat : Int)) = decide (x ≠ y) := by
    rw [Bool.eq_iff_iff]; simp only [bne_iff_ne, decide_eq_true_eq, ne_eq]
    exact ⟨fun h e => h (by rw [e]), fun h e => h (UInt16.toNat_inj.1 (by omega))⟩
  simp only [binOp, Op.intCmp, ne_eq, not_true_eq_false, if_false, Sem.run_pure, e]
theorem lss_u16 {x y : UInt16} : BinR .lss .u16 x.toNat .u16 y.toNat (.bool (decide (x < y))) := by
  intro P t w
  have e : ((x.toNat : Int) < (y.toNat : Int)) = (x < y) := by rw [UInt16.lt_iff_toNat_lt]; simp
  simp only [binOp, Op.intCmp, ne_eq, not_true_eq_false, if_false, Sem.run_pure, e]
theorem leq_u16 {x y : UInt16} : BinR .leq .u16 x.toNat .u16 y.toNat (.bool (decide (x ≤ y))) := by
  intro P t w
  have e : ((x.toNat : Int) ≤ (y.toNat : Int)) = (x ≤ y) := by rw [UInt16.le_iff_toNat_le]; simp
  simp only [binOp, Op.intCmp, ne_eq, not_true_eq_false, if_false, Sem.run_pure, e]
theorem gtr_u16 {x y : UInt16} : BinR .gtr .u16 x.toNat .u16 y.toNat (.bool (decide (y < x))) := by
  intro P t w
  have e : ((x.toNat : Int) > (y.toNat : Int)) = (y < x) := by rw [UInt16.lt_iff_toNat_lt]; simp
  simp only [binOp, Op.intCmp, ne_eq, not_true_eq_false, if_false, Sem.run_pure, e]
theorem geq_u16 {x y : UInt16} : BinR .geq .u16 x.toNat .u16 y.toNat (.bool (decide (y ≤ x))) := by
  intro P t w
  have e : ((x.toNat : Int) ≥ (y.toNat : Int)) = (y ≤ x) := by rw [UInt16.le_iff_toNat_le]; simp
  simp only [binOp, Op.intCmp, ne_eq, not_true_eq_false, if_false, Sem.run_pure, e]

theorem wrap_u32 (n : Int) : IntKind.u32.wrap n = ((UInt32.ofInt n).toNat : Int) := by
  simp only [IntKind.wrap, IntKind.signed, IntKind.bits, Bool.false_and, Bool.false_eq_true, if_false]
  simp [UInt32.ofInt, UInt32.toNat_ofNat']
  omega
theorem ofInt_toNat_u32 (x : UInt32) : UInt32.ofInt (x.toNat : Int) = x := by
  apply UInt32.toNat_inj.1
  have h := wrap_u32 (x.toNat : Int)
  have hx : x.toNat < 2 ^ 32 := x.toNat_lt
  simp only [IntKind.wrap, IntKind.signed, IntKind.bits, Bool.false_and, Bool.false_eq_true, if_false] at h
  simp at h
  omega
theorem back_u32 (x : UInt32) : IntKind.u32.wrap (x.toNat : Int) = (x.toNat : Int) := by rw [wrap_u32, ofInt_toNat_u32]
theorem bits_u32 (x : UInt32) : BitVec.ofInt IntKind.u32.bits (x.toNat : Int) = x.toBitVec := by
  apply BitVec.eq_of_toNat_eq
  have hx : x.toNat < 2 ^ 32 := x.toNat_lt
  have : x.toBitVec.toNat = x.toNat := rfl
  simp [IntKind.bits]
theorem add_u32 {x y : UInt32} : BinR .add .u32 x.toNat .u32 y.toNat (w32 (x + y)) := by
  intro P t w
  have e : IntKind.u32.wrap ((x.toNat : Int) + y.toNat) = ((x + y).toNat : Int) := by
    rw [UInt32.toNat_add]
    simp only [IntKind.wrap, IntKind.signed, IntKind.bits, Bool.false_and, Bool.false_eq_true, if_false]
    omega
  simp [binOp, Op.intArith, w32, e]
theorem sub_u32 {x y : UInt32} : BinR .sub .u32 x.toNat .u32 y.toNat (w32 (x - y)) := by
  intro P t w
  have hy : y.toNat < 2 ^ 32 := y.toNat_lt
  have e : IntKind.u32.wrap ((x.toNat : Int) - y.toNat) = ((x - y).toNat : Int) := by
    rw [UInt32.toNat_sub]
    simp only [IntKind.wrap, IntKind.signed, IntKind.bits, Bool.false_and, Bool.false_eq_true, if_false]
    omega
  simp [binOp, Op.intArith, w32, e]
theorem mul_u32 {x y : UInt32} : BinR .mul .u32 x.toNat .u32 y.toNat (w32 (x * y)) := by
  intro P t w
  have e : IntKind.u32.wrap ((x.toNat : Int) * y.toNat) = ((x * y).toNat : Int) := by
    rw [UInt32.toNat_mul]
    simp only [IntKind.wrap, IntKind.signed, IntKind.bits, Bool.false_and, Bool.false_eq_true, if_false]
    rw [← Int.natCast_mul]
    omega
  simp [binOp, Op.intArith, w32, e]
theorem and_u32 {x y : UInt32} : BinR .and .u32 x.toNat .u32 y.toNat (w32 (x &&& y)) := by
  intro P t w
  have e : IntKind.u32.wrap (((x.toBitVec &&& y.toBitVec).toNat : Nat) : Int) = ((x &&& y).toNat : Int) := back_u32 (x &&& y)
  simp only [binOp, Op.intBits, bits_u32, ne_eq, not_true_eq_false, if_false, Sem.run_pure, w32]
  exact congrArg (fun z => Result.ok (Value.int .u32 z) w) e
theorem or_u32 {x y : UInt32} : BinR .or .u32 x.toNat .u32 y.toNat (w32 (x ||| y)) := by
  intro P t w
  have e : IntKind.u32.wrap (((x.toBitVec ||| y.toBitVec).toNat : Nat) : Int) = ((x ||| y).toNat : Int) := back_u32 (x ||| y)
  simp only [binOp, Op.intBits, bits_u32, ne_eq, not_true_eq_false, if_false, Sem.run_pure, w32]
  exact congrArg (fun z => Result.ok (Value.int .u32 z) w) e
theorem xor_u32 {x y : UInt32} : BinR .xor .u32 x.toNat .u32 y.toNat (w32 (x ^^^ y)) := by
  intro P t w
  have e : IntKind.u32.wrap (((x.toBitVec ^^^ y.toBitVec).toNat : Nat) : Int) = ((x ^^^ y).toNat : Int) := back_u32 (x ^^^ y)
  simp only [binOp, Op.intBits, bits_u32, ne_eq, not_true_eq_false, if_false, Sem.run_pure, w32]
  exact congrArg (fun z => Result.ok (Value.int .u32 z) w) e
/-- shifts by a count that is not below 0 -/
theorem shl_u32 {x : UInt32} {k' : IntKind} {c : Int} (hc : 0 ≤ c) : BinR .shl .u32 x.toNat k' c (w32 (UInt32.ofNat (x.toNat * 2 ^ c.toNat))) := by
  intro P t w
  have hn : ¬ c < 0 := by omega
  have e : IntKind.u32.wrap ((x.toNat : Int) * 2 ^ (min c.toNat 32)) = ((UInt32.ofNat (x.toNat * 2 ^ c.toNat)).toNat : Int) := by
    simp only [IntKind.wrap, IntKind.signed, IntKind.bits, Bool.false_and, Bool.false_eq_true, if_false, UInt32.toNat_ofNat']
    by_cases h : c.toNat ≤ 32
    · rw [Nat.min_eq_left h]
      have : ((x.toNat : Int) * 2 ^ c.toNat) = ((x.toNat * 2 ^ c.toNat : Nat) : Int) := by push_cast; rfl
      rw [this]
      omega
    · rw [Nat.min_eq_right (by omega)]
      obtain ⟨d, hd⟩ : ∃ d, c.toNat = 32 + d := ⟨c.toNat - 32, by omega⟩
      rw [hd, Nat.pow_add, Nat.mul_comm (2 ^ 32), ← Nat.mul_assoc, Nat.mul_mod_left]
      simp
  simp only [binOp, Op.shift, hn, if_false, IntKind.bits, Sem.run_pure, w32]
  exact congrArg (fun z => Result.ok (Value.int .u32 z) w) e
theorem shr_u32 {x : UInt32} {k' : IntKind} {c : Int} (hc : 0 ≤ c) : BinR .shr .u32 x.toNat k' c (w32 (UInt32.ofNat (x.toNat / 2 ^ c.toNat))) := by
  intro P t w
  have hn : ¬ c < 0 := by omega
  have hx : x.toNat < 2 ^ 32 := x.toNat_lt
  have e : ((x.toNat : Int)).fdiv (2 ^ (min c.toNat 32)) = ((UInt32.ofNat (x.toNat / 2 ^ c.toNat)).toNat : Int) := by
    simp only [UInt32.toNat_ofNat']
    have h2 : ((2 : Int) ^ (min c.toNat 32)) = ((2 ^ (min c.toNat 32) : Nat) : Int) := by push_cast; rfl
    rw [h2, Int.fdiv_eq_ediv_of_nonneg _ (Int.natCast_nonneg _), ← Int.natCast_ediv]
    congr 1
    by_cases h : c.toNat ≤ 32
    · rw [Nat.min_eq_left h, Nat.mod_eq_of_lt]
      exact Nat.lt_of_le_of_lt (Nat.div_le_self _ _) hx
    · rw [Nat.min_eq_right (by omega), Nat.div_eq_of_lt hx, Nat.div_eq_of_lt (Nat.lt_of_lt_of_le hx (Nat.pow_le_pow_right (by omega) (by omega)))]
  simp only [binOp, Op.shift, hn, if_false, IntKind.bits, Sem.run_pure, w32]
  exact congrArg (fun z => Result.ok (Value.int .u32 z) w) e
theorem quo_u32 {x y : UInt32} (h : y ≠ 0) : BinR .quo .u32 x.toNat .u32 y.toNat (w32 (x / y)) := by
  intro P t w
  have hy : y.toNat ≠ 0 := fun e => h (UInt32.toNat_inj.1 (by simpa using e))
  have hy' : ¬ ((y.toNat : Int) = 0) := by omega
  have e : IntKind.u32.wrap ((x.toNat : Int).tdiv y.toNat) = ((x / y).toNat : Int) := by
    rw [Int.tdiv_eq_ediv_of_nonneg (by omega), ← Int.natCast_ediv, ← UInt32.toNat_div]
    exact back_u32 (x / y)
  simp only [binOp, Op.intDiv, hy', ne_eq, not_true_eq_false, if_false, Sem.run_pure, w32]
  exact congrArg (fun z => Result.ok (Value.int .u32 z) w) e
theorem rem_u32 {x y : UInt32} (h : y ≠ 0) : BinR .rem .u32 x.toNat .u32 y.toNat (w32 (x % y)) := by
  intro P t w
  have hy : y.toNat ≠ 0 := fun e => h (UInt32.toNat_inj.1 (by simpa using e))
  have hy' : ¬ ((y.toNat : Int) = 0) := by omega
  have e : ((x.toNat : Int).tmod y.toNat) = ((x % y).toNat : Int) := by
    rw [Int.tmod_eq_emod_of_nonneg (by omega), UInt32.toNat_mod]; rfl
  simp only [binOp, Op.intDiv, hy', ne_eq, not_true_eq_false, if_false, Sem.run_pure, w32]
  exact congrArg (fun z => Result.ok (Value.int .u32 z) w) e
theorem eql_u32 {x y : UInt32} : BinR .eql .u32 x.toNat .u32 y.toNat (.bool (decide (x = y))) := by
  intro P t w
  have e : ((x.toNat : Int) == (y.toNat : Int)) = decide (x = y) := by
    rw [Bool.eq_iff_iff]; simp only [beq_iff_eq, decide_eq_true_eq]
    exact ⟨fun h => UInt32.toNat_inj.1 (by omega), fun h => by rw [h]⟩
  simp only [binOp, Op.intCmp, ne_eq, not_true_eq_false, if_false, Sem.run_pure, e]
theorem neq_u32 {x y : UInt32} : BinR .neq .u32 x.toNat .u32 y.toNat (.bool (decide (x ≠ y))) := by
  intro P t w
  have e : ((x.toNat : Int) != (y.toNat : Int)) = decide (x ≠ y) := by
    rw [Bool.eq_iff_iff]; simp only [bne_iff_ne, decide_eq_true_eq, ne_eq]
    exact ⟨fun h e => h (by rw [e]), fun h e => h (UInt32.toNat_inj.1 (by omega))⟩
  simp only [binOp, Op.intCmp, ne_eq, not_true_eq_false, if_false, Sem.run_pure, e]
theorem lss_u32 {x y : UInt32} : BinR .lss .u32 x.toNat .u32 y.toNat (.bool (decide (x < y))) := by
  intro P t w
  have e : ((x.toNat : Int) < (y.toNat : Int)) = (x < y) := by rw [UInt32.lt_iff_toNat_lt]; simp
  simp only [binOp, Op.intCmp, ne_eq, not_true_eq_false, if_false, Sem.run_pure, e]
theorem leq_u32 {x y : UInt32} : BinR .leq .u32 x.toNat .u32 y.toNat (.bool (decide (x ≤ y))) := by
  intro P t w
  have e : ((x.toNat : Int) ≤ (y.toNat : Int)) = (x ≤ y) := by rw [UInt32.le_iff_toNat_le]; simp
  simp only [binOp, Op.intCmp, ne_eq, not_true_eq_false, if_false, Sem.run_pure, e]
theorem gtr_u32 {x y : UInt32} : BinR .gtr .u32 x.toNat .u32 y.toNat (.bool (decide (y < x))) := by
  intro P t w
  have e : ((x.toNat : Int) > (y.toNat : Int)) = (y < x) := by rw [UInt32.lt_iff_toNat_lt]; simp
  simp only [binOp, Op.intCmp, ne_eq, not_true_eq_false, if_false, Sem.run_pure, e]
theorem geq_u32 {x y : UInt32} : BinR .geq .u32 x.toNat .u32 y.toNat (.bool (decide (y ≤ x))) := by
  intro P t w
  have e : ((x.toNat : Int) ≥ (y.toNat : Int)) = (y ≤ x) := by rw [UInt32.le_iff_toNat_le]; simp
  simp only [binOp, Op.intCmp, ne_eq, not_true_eq_false, if_false, Sem.run_pure, e]

theorem wrap_u64 (n : Int) : IntKind.u64.wrap n = ((UInt64.ofInt n).toNat : Int) := by
  simp only [IntKind.wrap, IntKind.signed, IntKind.bits, Bool.false_and, Bool.false_eq_true, if_false]
  simp [UInt64.ofInt, UInt64.toNat_ofNat']
  omega
theorem ofInt_toNat_u64 (x : UInt64) : UInt64.ofInt (x.toNat : Int) = x := by
  apply UInt64.toNat_inj.1
  have h := wrap_u64 (x.toNat : Int)
  have hx : x.toNat < 2 ^ 64 := x.toNat_lt
  simp only [IntKind.wrap, IntKind.signed, IntKind.bits, Bool.false_and, Bool.false_eq_true, if_false] at h
  simp at h
  omega
theorem back_u64 (x : UInt64) : IntKind.u64.wrap (x.toNat : Int) = (x.toNat : Int) := by rw [wrap_u64, ofInt_toNat_u64]
theorem bits_u64 (x : UInt64) : BitVec.ofInt IntKind.u64.bits (x.toNat : Int) = x.toBitVec := by
  apply BitVec.eq_of_toNat_eq
  have hx : x.toNat < 2 ^ 64 := x.toNat_lt
  have : x.toBitVec.toNat = x.toNat := rfl
  simp [IntKind.bits]
theorem add_u64 {x y : UInt64} : BinR .add .u64 x.toNat .u64 y.toNat (w64 (x + y)) := by
  intro P t w
  have e : IntKind.u64.wrap ((x.toNat : Int) + y.toNat) = ((x + y).toNat : Int) := by
    rw [UInt64.toNat_add]
    simp only [IntKind.wrap, IntKind.signed, IntKind.bits, Bool.false_and, Bool.false_eq_true, if_false]
    omega
  simp [binOp, Op.intArith, w64, e]
theorem sub_u64 {x y : UInt64} : BinR .sub .u64 x.toNat .u64 y.toNat (w64 (x - y)) := by
  intro P t w
  have hy : y.toNat < 2 ^ 64 := y.toNat_lt
  have e : IntKind.u64.wrap ((x.toNat : Int) - y.toNat) = ((x - y).toNat : Int) := by
    rw [UInt64.toNat_sub]
    simp only [IntKind.wrap, IntKind.signed, IntKind.bits, Bool.false_and, Bool.false_eq_true, if_false]
    omega
  simp [binOp, Op.intArith, w64, e]
theorem mul_u64 {x y : UInt64} : BinR .mul .u64 x.toNat .u64 y.toNat (w64 (x * y)) := by
  intro P t w
  have e : IntKind.u64.wrap ((x.toNat : Int) * y.toNat) = ((x * y).toNat : Int) := by
    rw [UInt64.toNat_mul]
    simp only [IntKind.wrap, IntKind.signed, IntKind.bits, Bool.false_and, Bool.false_eq_true, if_false]
    rw [← Int.natCast_mul]
    omega
  simp [binOp, Op.intArith, w64, e]
theorem and_u64 {x y : UInt64} : BinR .and .u64 x.toNat .u64 y.toNat (w64 (x &&& y)) := by
  intro P t w
  have e : IntKind.u64.wrap (((x.toBitVec &&& y.toBitVec).toNat : Nat) : Int) = ((x &&& y).toNat : Int) := back_u64 (x &&& y)
  simp only [binOp, Op.intBits, bits_u64, ne_eq, not_true_eq_false, if_false, Sem.run_pure, w64]
  exact congrArg (fun z => Result.ok (Value.int .u64 z) w) e
theorem or_u64 {x y : UInt64} : BinR .or .u64 x.toNat .u64 y.toNat (w64 (x ||| y)) := by
  intro P t w
  have e : IntKind.u64.wrap (((x.toBitVec ||| y.toBitVec).toNat : Nat) : Int) = ((x ||| y).toNat : Int) := back_u64 (x ||| y)
  simp only [binOp, Op.intBits, bits_u64, ne_eq, not_true_eq_false, if_false, Sem.run_pure, w64]
  exact congrArg (fun z => Result.ok (Value.int .u64 z) w) e
theorem xor_u64 {x y : UInt64} : BinR .xor .u64 x.toNat .u64 y.toNat (w64 (x ^^^ y)) := by
  intro P t w
  have e : IntKind.u64.wrap (((x.toBitVec ^^^ y.toBitVec).toNat : Nat) : Int) = ((x ^^^ y).toNat : Int) := back_u64 (x ^^^ y)
  simp only [binOp, Op.intBits, bits_u64, ne_eq, not_true_eq_false, if_false, Sem.run_pure, w64]
  exact congrArg (fun z => Result.ok (Value.int .u64 z) w) e
/-- shifts by a count that is not below 0 -/
theorem shl_u64 {x : UInt64} {k' : IntKind} {c : Int} (hc : 0 ≤ c) : BinR .shl .u64 x.toNat k' c (w64 (UInt64.ofNat (x.toNat * 2 ^ c.toNat))) := by
  intro P t w
  have hn : ¬ c < 0 := by omega
  have e : IntKind.u64.wrap ((x.toNat : Int) * 2 ^ (min c.toNat 64)) = ((UInt64.ofNat (x.toNat * 2 ^ c.toNat)).toNat : Int) := by
    simp only [IntKind.wrap, IntKind.signed, IntKind.bits, Bool.false_and, Bool.false_eq_true, if_false, UInt64.toNat_ofNat']
    by_cases h : c.toNat ≤ 64
    · rw [Nat.min_eq_left h]
      have : ((x.toNat : Int) * 2 ^ c.toNat) = ((x.toNat * 2 ^ c.toNat : Nat) : Int) := by push_cast; rfl
      rw [this]
      omega
    · rw [Nat.min_eq_right (by omega)]
      obtain ⟨d, hd⟩ : ∃ d, c.toNat = 64 + d := ⟨c.toNat - 64, by omega⟩
      rw [hd, Nat.pow_add, Nat.mul_comm (2 ^ 64), ← Nat.mul_assoc, Nat.mul_mod_left]
      simp
  simp only [binOp, Op.shift, hn, if_false, IntKind.bits, Sem.run_pure, w64]
  exact congrArg (fun z => Result.ok (Value.int .u64 z) w) e
theorem shr_u64 {x : UInt64} {k' : IntKind} {c : Int} (hc : 0 ≤ c) : BinR .shr .u64 x.toNat k' c (w64 (UInt64.ofNat (x.toNat / 2 ^ c.toNat))) := by
  intro P t w
  have hn : ¬ c < 0 := by omega
  have hx : x.toNat < 2 ^ 64 := x.toNat_lt
  have e : ((x.toNat : Int)).fdiv (2 ^ (min c.toNat 64)) = ((UInt64.ofNat (x.toNat / 2 ^ c.toNat)).toNat : Int) := by
    simp only [UInt64.toNat_ofNat']
    have h2 : ((2 : Int) ^ (min c.toNat 64)) = ((2 ^ (min c.toNat 64) : Nat) : Int) := by push_cast; rfl
    rw [h2, Int.fdiv_eq_ediv_of_nonneg _ (Int.natCast_nonneg _), ← Int.natCast_ediv]
    congr 1
    by_cases h : c.toNat ≤ 64
    · rw [Nat.min_eq_left h, Nat.mod_eq_of_lt]
      exact Nat.lt_of_le_of_lt (Nat.div_le_self _ _) hx
    · rw [Nat.min_eq_right (by omega), Nat.div_eq_of_lt hx, Nat.div_eq_of_lt (Nat.lt_of_lt_of_le hx (Nat.pow_le_pow_right (by omega) (by omega)))]
  simp only [binOp, Op.shift, hn, if_false, IntKind.bits, Sem.run_pure, w64]
  exact congrArg (fun z => Result.ok (Value.int .u64 z) w) e
theorem quo_u64 {x y : UInt64} (h : y ≠ 0) : BinR .quo .u64 x.toNat .u64 y.toNat (w64 (x / y)) := by
  intro P t w
  have hy : y.toNat ≠ 0 := fun e => h (UInt64.toNat_inj.1 (by simpa using e))
  have hy' : ¬ ((y.toNat : Int) = 0) := by omega
  have e : IntKind.u64.wrap ((x.toNat : Int).tdiv y.toNat) = ((x / y).toNat : Int) := by
    rw [Int.tdiv_eq_ediv_of_nonneg (by omega), ← Int.natCast_ediv, ← UInt64.toNat_div]
    exact back_u64 (x / y)
  simp only [binOp, Op.intDiv, hy', ne_eq, not_true_eq_false, if_false, Sem.run_pure, w64]
  exact congrArg (fun z => Result.ok (Value.int .u64 z) w) e
theorem rem_u64 {x y : UInt64} (h : y ≠ 0) : BinR .rem .u64 x.toNat .u64 y.toNat (w64 (x % y)) := by
  intro P t w
  have hy : y.toNat ≠ 0 := fun e => h (UInt64.toNat_inj.1 (by simpa using e))
  have hy' : ¬ ((y.toNat : Int) = 0) := by omega
  have e : ((x.toNat : Int).tmod y.toNat) = ((x % y).toNat : Int) := by
    rw [Int.tmod_eq_emod_of_nonneg (by omega), UInt64.toNat_mod]; rfl
  simp only [binOp, Op.intDiv, hy', ne_eq, not_true_eq_false, if_false, Sem.run_pure, w64]
  exact congrArg (fun z => Result.ok (Value.int .u64 z) w) e
theorem eql_u64 {x y : UInt64} : BinR .eql .u64 x.toNat .u64 y.toNat (.bool (decide (x = y))) := by
  intro P t w
  have e : ((x.toNat : Int) == (y.toNat : Int)) = decide (x = y) := by
    rw [Bool.eq_iff_iff]; simp only [beq_iff_eq, decide_eq_true_eq]
    exact ⟨fun h => UInt64.toNat_inj.1 (by omega), fun h => by rw [h]⟩
  simp only [binOp, Op.intCmp, ne_eq, not_true_eq_false, if_false, Sem.run_pure, e]
theorem neq_u64 {x y : UInt64} : BinR .neq .u64 x.toNat .u64 y.toNat (.bool (decide (x ≠ y))) := by
  intro P t w
  have e : ((x.toNat : Int) != (y.toNat : Int)) = decide (x ≠ y) := by
    rw [Bool.eq_iff_iff]; simp only [bne_iff_ne, decide_eq_true_eq, ne_eq]
    exact ⟨fun h e => h (by rw [e]), fun h e => h (UInt64.toNat_inj.1 (by omega))⟩
  simp only [binOp, Op.intCmp, ne_eq, not_true_eq_false, if_false, Sem.run_pure, e]
theorem lss_u64 {x y : UInt64} : BinR .lss .u64 x.toNat .u64 y.toNat (.bool (decide (x < y))) := by
  intro P t w
  have e : ((x.toNat : Int) < (y.toNat : Int)) = (x < y) := by rw [UInt64.lt_iff_toNat_lt]; simp
  simp only [binOp, Op.intCmp, ne_eq, not_true_eq_false, if_false, Sem.run_pure, e]
theorem leq_u64 {x y : UInt64} : BinR .leq .u64 x.toNat .u64 y.toNat (.bool (decide (x ≤ y))) := by
  intro P t w
  have e : ((x.toNat : Int) ≤ (y.toNat : Int)) = (x ≤ y) := by rw [UInt64.le_iff_toNat_le]; simp
  simp only [binOp, Op.intCmp, ne_eq, not_true_eq_false, if_false, Sem.run_pure, e]
theorem gtr_u64 {x y : UInt64} : BinR .gtr .u64 x.toNat .u64 y.toNat (.bool (decide (y < x))) := by
  intro P t w
  have e : ((x.toNat : Int) > (y.toNat : Int)) = (y < x) := by rw [UInt64.lt_iff_toNat_lt]; simp
  simp only [binOp, Op.intCmp, ne_eq, not_true_eq_false, if_false, Sem.run_pure, e]
theorem geq_u64 {x y : UInt64} : BinR .geq .u64 x.toNat .u64 y.toNat (.bool (decide (y ≤ x))) := by
  intro P t w
  have e : ((x.toNat : Int) ≥ (y.toNat : Int)) = (y ≤ x) := by rw [UInt64.le_iff_toNat_le]; simp
  simp only [binOp, Op.intCmp, ne_eq, not_true_eq_false, if_false, Sem.run_pure, e]

/-! int -/
theorem add_i64 {x y : Int} (h1 : -9223372036854775808 ≤ x + y) (h2 : x + y ≤ 9223372036854775807) : BinR .add .i64 x .i64 y (.int .i64 (x + y)) := by
  intro P t w; simp only [binOp, Op.intArith, ne_eq, not_true_eq_false, if_false, Sem.run_pure, wrap_i64 _ h1 h2]
theorem sub_i64 {x y : Int} (h1 : -9223372036854775808 ≤ x - y) (h2 : x - y ≤ 9223372036854775807) : BinR .sub .i64 x .i64 y (.int .i64 (x - y)) := by
  intro P t w; simp only [binOp, Op.intArith, ne_eq, not_true_eq_false, if_false, Sem.run_pure, wrap_i64 _ h1 h2]
theorem mul_i64 {x y : Int} (h1 : -9223372036854775808 ≤ x * y) (h2 : x * y ≤ 9223372036854775807) : BinR .mul .i64 x .i64 y (.int .i64 (x * y)) := by
  intro P t w; simp only [binOp, Op.intArith, ne_eq, not_true_eq_false, if_false, Sem.run_pure, wrap_i64 _ h1 h2]
theorem addw_i64 {x y : Int} : BinR .add .i64 x .i64 y (.int .i64 (IntKind.i64.wrap (x + y))) := by
  intro P t w; simp only [binOp, Op.intArith, ne_eq, not_true_eq_false, if_false, Sem.run_pure]
theorem subw_i64 {x y : Int} : BinR .sub .i64 x .i64 y (.int .i64 (IntKind.i64.wrap (x - y))) := by
  intro P t w; simp only [binOp, Op.intArith, ne_eq, not_true_eq_false, if_false, Sem.run_pure]
theorem mulw_i64 {x y : Int} : BinR .mul .i64 x .i64 y (.int .i64 (IntKind.i64.wrap (x * y))) := by
  intro P t w; simp only [binOp, Op.intArith, ne_eq, not_true_eq_false, if_false, Sem.run_pure]
/-- a quotient of numbers of which neither is below 0 -/
theorem quo_i64 {x y : Int} (hx : 0 ≤ x) (hy : 0 < y) (h2 : x ≤ 9223372036854775807) : BinR .quo .i64 x .i64 y (.int .i64 (x / y)) := by
  intro P t w
  have hy' : ¬ (y = 0) := by omega
  have h3 : 0 ≤ x / y := Int.ediv_nonneg hx (by omega)
  have h4 : x / y ≤ x := Int.ediv_le_self _ hx
  simp only [binOp, Op.intDiv, hy', ne_eq, not_true_eq_false, if_false, Sem.run_pure, Int.tdiv_eq_ediv_of_nonneg hx]
  rw [wrap_i64 _ (by omega) (by omega)]
theorem rem_i64 {x y : Int} (hx : 0 ≤ x) (hy : y ≠ 0) : BinR .rem .i64 x .i64 y (.int .i64 (x % y)) := by
  intro P t w
  simp only [binOp, Op.intDiv, hy, ne_eq, not_true_eq_false, if_false, Sem.run_pure, Int.tmod_eq_emod_of_nonneg hx]
theorem remt_i64 {x y : Int} (hy : y ≠ 0) : BinR .rem .i64 x .i64 y (.int .i64 (x.tmod y)) := by
  intro P t w
  simp only [binOp, Op.intDiv, hy, ne_eq, not_true_eq_false, if_false, Sem.run_pure]
theorem quot_i64 {x y : Int} (hy : y ≠ 0) : BinR .quo .i64 x .i64 y (.int .i64 (IntKind.i64.wrap (x.tdiv y))) := by
  intro P t w
  simp only [binOp, Op.intDiv, hy, ne_eq, not_true_eq_false, if_false, Sem.run_pure]
theorem shl_i64 {x : Int} {k' : IntKind} {c : Int} (hc : 0 ≤ c) (hc2 : c ≤ 64) (h1 : -9223372036854775808 ≤ x * 2 ^ c.toNat) (h2 : x * 2 ^ c.toNat ≤ 9223372036854775807) : BinR .shl .i64 x k' c (.int .i64 (x * 2 ^ c.toNat)) := by
  intro P t w
  have hn : ¬ c < 0 := by omega
  have e : min c.toNat 64 = c.toNat := Nat.min_eq_left (by omega)
  simp only [binOp, Op.shift, hn, if_false, IntKind.bits, Sem.run_pure, e, wrap_i64 _ h1 h2]
theorem shr_i64 {x : Int} {k' : IntKind} {c : Int} (hc : 0 ≤ c) (hc2 : c ≤ 64) : BinR .shr .i64 x k' c (.int .i64 (x / 2 ^ c.toNat)) := by
  intro P t w
  have hn : ¬ c < 0 := by omega
  have e : min c.toNat 64 = c.toNat := Nat.min_eq_left (by omega)
  simp only [binOp, Op.shift, hn, if_false, IntKind.bits, Sem.run_pure, e]
  rw [Int.fdiv_eq_ediv_of_nonneg _ (Int.le_of_lt (Int.pow_pos (by omega)))]
theorem eql_int {k : IntKind} {x y : Int} : BinR .eql k x k y (.bool (decide (x = y))) := by
  intro P t w
  have e : (x == y) = decide (x = y) := by rw [Bool.eq_iff_iff]; simp
  simp only [binOp, Op.intCmp, ne_eq, not_true_eq_false, if_false, Sem.run_pure, e]
theorem neq_int {k : IntKind} {x y : Int} : BinR .neq k x k y (.bool (decide (x ≠ y))) := by
  intro P t w
  have e : (x != y) = decide (x ≠ y) := by rw [Bool.eq_iff_iff]; simp
  simp only [binOp, Op.intCmp, ne_eq, not_true_eq_false, if_false, Sem.run_pure, e]
theorem lss_int {k : IntKind} {x y : Int} : BinR .lss k x k y (.bool (decide (x < y))) := by
  intro P t w; simp only [binOp, Op.intCmp, ne_eq, not_true_eq_false, if_false, Sem.run_pure]
theorem leq_int {k : IntKind} {x y : Int} : BinR .leq k x k y (.bool (decide (x ≤ y))) := by
  intro P t w; simp only [binOp, Op.intCmp, ne_eq, not_true_eq_false, if_false, Sem.run_pure]
theorem gtr_int {k : IntKind} {x y : Int} : BinR .gtr k x k y (.bool (decide (y < x))) := by
  intro P t w; simp only [binOp, Op.intCmp, ne_eq, not_true_eq_false, if_false, Sem.run_pure]
theorem geq_int {k : IntKind} {x y : Int} : BinR .geq k x k y (.bool (decide (y ≤ x))) := by
  intro P t w; simp only [binOp, Op.intCmp, ne_eq, not_true_eq_false, if_false, Sem.run_pure]
end B
end Go.Sl

/- A small library for walks, part D: plain operations. No statement is proved here. -/
namespace Go.Sl

/-- a type's cells and bytes -/
def tsz (P : Program) (t : TypeId) : Option (Nat × Nat) := (P.info? t).map fun i => (i.size, i.bytes)
def tzero (P : Program) (t : TypeId) : Option Value := (P.info? t).bind (·.zero)

theorem tsz_some {P : Program} {t : TypeId} {a b : Nat} (h : tsz P t = some (a, b)) : ∃ i, P.info? t = some i ∧ i.size = a ∧ i.bytes = b := by
  unfold tsz at h
  cases e : P.info? t with
  | none => rw [e] at h; cases h
  | some i => rw [e] at h; simp at h; exact ⟨i, rfl, h.1, h.2⟩

theorem run_sizeOf {P : Program} {t : TypeId} {a b : Nat} (h : tsz P t = some (a, b)) (w : World) : (sizeOf t).run P w = .ok a w := by
  obtain ⟨i, hi, rfl, rfl⟩ := tsz_some h
  simp [sizeOf, typeInfo, hi]
theorem run_zeroValue {P : Program} {t : TypeId} {z : Value} (h : tzero P t = some z) (w : World) : (zeroValue t).run P w = .ok z w := by
  unfold tzero at h
  cases e : P.info? t with
  | none => rw [e] at h; cases h
  | some i => rw [e] at h; simp at h; simp [zeroValue, typeInfo, e, h]

/-- is a type's value one cell? -/
def TypeDesc.flat : TypeDesc → Bool
  | .struct _ | .array _ _ => false
  | _ => true

theorem run_isAgg {P : Program} {t : TypeId} {d : TypeDesc} (hu : P.underlying t = some d) (w : World) : (isAgg t).run P w = .ok (!TypeDesc.flat d) w := by
  cases d <;> simp [isAgg, run_underlying hu, TypeDesc.flat]

/-! ### Operations -/
section
variable {P : Program} {n : Nat} {s w : World} {a : Act} {E : List (Nat × Value)} {L : List HItem} {ops rest : _} {Q : Exit → Act → World → Prop} {next : Act → World → Prop}
variable {d : Nat} {dst : Option Nat} {ty : TypeId} {pos : String} {aft : Array Edge} {g : Option (Nat × Bool)}

theorem wl {o : Oper} {ops : Array Oper} {rest : List Oper} (hg : o.guard = none) (h : o.wp P a w (wpList P ops Q rest) Q) : wpList P ops Q (o :: rest) a w := by
  unfold wpList
  rw [if_pos (by simp [Region.wanted, hg])]
  exact .inl h
theorem wnil {ops : Array Oper} (h : Q .normal a w) : wpList P ops Q [] a w := h

theorem op_run (h : St n s a w E L) {op : Op} {v : Value} {w' : World} {L' : List HItem} (hr : (execOp a.eval ⟨some d, op, ty, pos, aft, g⟩).run P w = .ok (.value v) w')
    (hd : Nat.blt d n = true) (hw : Sat s w' L') (k : ∀ a w, St n s a w ((d, v) :: E) L' → next a w) : (Oper.mk (some d) op ty pos aft g).wp P a w next Q := by
  unfold Oper.wp
  rw [hr]
  exact k _ _ ⟨h.1.put hd v, hw⟩

theorem op_run0 (h : St n s a w E L) {op : Op} {v : Value} {w' : World} {L' : List HItem} (hr : (execOp a.eval ⟨none, op, ty, pos, aft, g⟩).run P w = .ok (.value v) w')
    (hw : Sat s w' L') (k : ∀ a w, St n s a w E L' → next a w) : (Oper.mk none op ty pos aft g).wp P a w next Q := by
  unfold Oper.wp
  rw [hr]
  exact k _ _ ⟨h.1, hw⟩

theorem op_run_skip (h : St n s a w E L) {op : Op} {w' : World} {L' : List HItem} (hr : (execOp a.eval ⟨none, op, ty, pos, aft, g⟩).run P w = .ok .skip w')
    (hw : Sat s w' L') (k : ∀ a w, St n s a w E L' → next a w) : (Oper.mk none op ty pos aft g).wp P a w next Q := by
  unfold Oper.wp
  rw [hr]
  exact k _ _ ⟨h.1, hw⟩

theorem r_move (h : St n s a w E L) {x : Operand} {v : Value} (hx : ev E x = some v) : (execOp a.eval ⟨dst, .move x, ty, pos, aft, g⟩).run P w = .ok (.value (v)) w := by simp [execOp, h.1.ev hx]

theorem r_assign (h : St n s a w E L) {x : Operand} {v : Value} (hx : ev E x = some v) : (execOp a.eval ⟨dst, .assign x, ty, pos, aft, g⟩).run P w = .ok (.value (v)) w := by simp [execOp, h.1.ev hx]

theorem r_pick (h : St n s a w E L) {c x y : Operand} {b : Bool} {v u : Value} (hc : ev E c = some (.bool b)) (hx : ev E x = some v) (hy : ev E y = some u) : (execOp a.eval ⟨dst, .pick c x y, ty, pos, aft, g⟩).run P w = .ok (.value (if b then v else u)) w := by simp only [execOp, h.1.ev hc, h.1.ev hx, h.1.ev hy, asBool, Sem.run_bind, Sem.run_pure, Result.andThen_ok]

theorem r_pick_true (h : St n s a w E L) {c x y : Operand} {v : Value} (hc : ev E c = some (.bool true)) (hx : ev E x = some v) : (execOp a.eval ⟨dst, .pick c x y, ty, pos, aft, g⟩).run P w = .ok (.value (v)) w := by simp [execOp, h.1.ev hc, h.1.ev hx, asBool]

theorem r_pick_false (h : St n s a w E L) {c x y : Operand} {v : Value} (hc : ev E c = some (.bool false)) (hx : ev E y = some v) : (execOp a.eval ⟨dst, .pick c x y, ty, pos, aft, g⟩).run P w = .ok (.value (v)) w := by simp [execOp, h.1.ev hc, h.1.ev hx, asBool]

theorem r_bin (h : St n s a w E L) {op : BinOp} {xt yt : TypeId} {x y : Operand} {k1 k2 : IntKind} {p q : Int} {v : Value} (hx : ev E x = some (.int k1 p)) (hy : ev E y = some (.int k2 q))
    (hr : BinR op k1 p k2 q v) : (execOp a.eval ⟨dst, .binOp op xt x y yt, ty, pos, aft, g⟩).run P w = .ok (.value (v)) w := by
  have hg : (eqGuard op xt x y (Value.int k1 p) (Value.int k2 q)).run P w = .ok () w := by
    unfold eqGuard; split <;> rfl
  simp [execOp, h.1.ev hx, h.1.ev hy, hg, hr P xt w]


/-- bools, texts, pointers: by a run of its own -/
theorem r_binv (h : St n s a w E L) {op : BinOp} {xt yt : TypeId} {x y : Operand} {p q : Value} {v : Value} (hx : ev E x = some p) (hy : ev E y = some q)
    (hr : ∀ w, (eqGuard op xt x y p q).run P w = .ok () w ∧ (binOp op xt p q).run P w = .ok v w) : (execOp a.eval ⟨dst, .binOp op xt x y yt, ty, pos, aft, g⟩).run P w = .ok (.value (v)) w := by
  simp [execOp, h.1.ev hx, h.1.ev hy, (hr w).1, (hr w).2]


theorem toList_ba (l : List UInt8) : (⟨⟨l⟩⟩ : ByteArray).toList = l := by
  simp [ByteArray.toList_eq]
theorem r_streq (h : St n s a w E L) {xt yt : TypeId} {x y : Operand} {l m : List UInt8} (hx : ev E x = some (.string ⟨⟨l⟩⟩)) (hy : ev E y = some (.string ⟨⟨m⟩⟩))
    : (execOp a.eval ⟨dst, .binOp .eql xt x y yt, ty, pos, aft, g⟩).run P w = .ok (.value (.bool (decide (l = m)))) w := by
  refine r_binv h hx hy (fun w => ⟨?_, ?_⟩)
  · simp [eqGuard]
  · simp only [binOp, Op.stringOp, toList_ba, Sem.run_pure]
    congr 2
    rw [Bool.eq_iff_iff]; simp

theorem r_strne (h : St n s a w E L) {xt yt : TypeId} {x y : Operand} {l m : List UInt8} (hx : ev E x = some (.string ⟨⟨l⟩⟩)) (hy : ev E y = some (.string ⟨⟨m⟩⟩))
    : (execOp a.eval ⟨dst, .binOp .neq xt x y yt, ty, pos, aft, g⟩).run P w = .ok (.value (.bool (decide (l ≠ m)))) w := by
  refine r_binv h hx hy (fun w => ⟨?_, ?_⟩)
  · simp [eqGuard]
  · simp only [binOp, Op.stringOp, toList_ba, Sem.run_pure]
    congr 2
    rw [Bool.eq_iff_iff]; simp

theorem r_strless (h : St n s a w E L) {xt yt : TypeId} {x y : Operand} {l m : List UInt8} (hx : ev E x = some (.string ⟨⟨l⟩⟩)) (hy : ev E y = some (.string ⟨⟨m⟩⟩))
    : (execOp a.eval ⟨dst, .binOp .lss xt x y yt, ty, pos, aft, g⟩).run P w = .ok (.value (.bool (Op.bytesLess l m))) w := by
  refine r_binv h hx hy (fun w => ⟨?_, ?_⟩)
  · simp [eqGuard]
  · simp only [binOp, Op.stringOp, toList_ba, Sem.run_pure]

theorem r_strcat (h : St n s a w E L) {xt yt : TypeId} {x y : Operand} {l m : List UInt8} (hx : ev E x = some (.string ⟨⟨l⟩⟩)) (hy : ev E y = some (.string ⟨⟨m⟩⟩))
    (hl : (l.length : Int) + m.length ≤ 9223372036854775807)
    : (execOp a.eval ⟨dst, .binOp .add xt x y yt, ty, pos, aft, g⟩).run P w = .ok (.value (.string ⟨⟨l ++ m⟩⟩)) w := by
  refine r_binv h hx hy (fun w => ⟨?_, ?_⟩)
  · simp [eqGuard]
  · have e1 : (⟨⟨l⟩⟩ : ByteArray).size = l.length := rfl
    have e2 : (⟨⟨m⟩⟩ : ByteArray).size = m.length := rfl
    have e3 : IntKind.i64.max = 9223372036854775807 := by decide
    have e : (⟨⟨l⟩⟩ : ByteArray) ++ ⟨⟨m⟩⟩ = ⟨⟨l ++ m⟩⟩ := by
      apply ByteArray.ext; simp
    simp only [binOp, Op.stringOp, e1, e2, e3, e]
    rw [if_neg (by push_cast; omega)]
    rfl

theorem eqIn_bool (P : Program) {t : TypeId} (hu : P.underlying t = some .bool) (l m : Bool) (dd : Nat) (w : World) : (Op.equalIn (dd + 1) t (.bool l) (.bool m)).run P w = .ok (l == m) w := by
  simp [Op.equalIn, run_underlying hu]
theorem eqIn_ptr_nil (P : Program) {t e : TypeId} (hu : P.underlying t = some (.pointer e)) (p : Option Addr) (dd : Nat) (w : World) : (Op.equalIn (dd + 1) t (.pointer p) (.pointer none)).run P w = .ok p.isNone w := by
  cases p <;> simp [Op.equalIn, run_underlying hu]
theorem equal_run {P : Program} {t : TypeId} {x y : Value} {b : Bool} {w : World} (h : ∀ dd, (Op.equalIn (dd + 1) t x y).run P w = .ok b w) : (Op.equal t x y).run P w = .ok b w := h 9999
theorem r_booleq (h : St n s a w E L) {xt yt : TypeId} {x y : Operand} {l m : Bool} (hu : P.underlying xt = some .bool) (hx : ev E x = some (.bool l)) (hy : ev E y = some (.bool m))
    : (execOp a.eval ⟨dst, .binOp .eql xt x y yt, ty, pos, aft, g⟩).run P w = .ok (.value (.bool (l == m))) w := by
  refine r_binv h hx hy (fun w => ⟨by simp [eqGuard], ?_⟩)
  show ((Op.equal xt (.bool l) (.bool m) >>= fun r => pure (Value.bool r)).run P w) = _
  rw [Sem.run_bind, equal_run (fun dd => eqIn_bool P hu l m dd w)]
  rfl

theorem r_boolne (h : St n s a w E L) {xt yt : TypeId} {x y : Operand} {l m : Bool} (hu : P.underlying xt = some .bool) (hx : ev E x = some (.bool l)) (hy : ev E y = some (.bool m))
    : (execOp a.eval ⟨dst, .binOp .neq xt x y yt, ty, pos, aft, g⟩).run P w = .ok (.value (.bool (l != m))) w := by
  refine r_binv h hx hy (fun w => ⟨by simp [eqGuard], ?_⟩)
  show ((Op.equal xt (.bool l) (.bool m) >>= fun r => pure (Value.bool (!r))).run P w) = _
  rw [Sem.run_bind, equal_run (fun dd => eqIn_bool P hu l m dd w)]
  rfl

theorem r_ptreq_nil (h : St n s a w E L) {xt yt e : TypeId} {x y : Operand} {p : Option Addr} (hu : P.underlying xt = some (.pointer e)) (hx : ev E x = some (.pointer p)) (hy : ev E y = some (.pointer none))
    : (execOp a.eval ⟨dst, .binOp .eql xt x y yt, ty, pos, aft, g⟩).run P w = .ok (.value (.bool p.isNone)) w := by
  refine r_binv h hx hy (fun w => ⟨by simp [eqGuard], ?_⟩)
  show ((Op.equal xt (.pointer p) (.pointer none) >>= fun r => pure (Value.bool r)).run P w) = _
  rw [Sem.run_bind, equal_run (fun dd => eqIn_ptr_nil P hu p dd w)]
  rfl

theorem r_ptrne_nil (h : St n s a w E L) {xt yt e : TypeId} {x y : Operand} {p : Option Addr} (hu : P.underlying xt = some (.pointer e)) (hx : ev E x = some (.pointer p)) (hy : ev E y = some (.pointer none))
    : (execOp a.eval ⟨dst, .binOp .neq xt x y yt, ty, pos, aft, g⟩).run P w = .ok (.value (.bool p.isSome)) w := by
  refine r_binv h hx hy (fun w => ⟨by simp [eqGuard], ?_⟩)
  show ((Op.equal xt (.pointer p) (.pointer none) >>= fun r => pure (Value.bool (!r))).run P w) = _
  rw [Sem.run_bind, equal_run (fun dd => eqIn_ptr_nil P hu p dd w)]
  cases p <;> rfl


theorem r_not (h : St n s a w E L) {xt : TypeId} {x : Operand} {b : Bool} (hx : ev E x = some (.bool b)) : (execOp a.eval ⟨dst, .unOp .not xt x, ty, pos, aft, g⟩).run P w = .ok (.value (.bool (!b))) w := by simp [execOp, h.1.ev hx, Op.unary]

theorem r_compl32 (h : St n s a w E L) {xt : TypeId} {x : Operand} {b : UInt32} (hx : ev E x = some (.int .u32 b.toNat)) : (execOp a.eval ⟨dst, .unOp .xor xt x, ty, pos, aft, g⟩).run P w = .ok (.value (w32 (~~~b))) w := by
  have hm : IntKind.u32.max = ((4294967295 : UInt32).toNat : Int) := by decide
  have hr := B.xor_u32 (x := 4294967295) (y := b) P xt w
  simp only [binOp, ne_eq, not_true_eq_false, if_false] at hr
  have e : (4294967295 : UInt32) ^^^ b = ~~~b := by
    apply UInt32.eq_of_toBitVec_eq
    simp only [UInt32.toBitVec_xor, UInt32.toBitVec_not]
    show BitVec.allOnes 32 ^^^ b.toBitVec = _
    rw [BitVec.allOnes_xor]
  rw [e] at hr
  simp only [execOp, h.1.ev hx, Op.unary, IntKind.signed, Bool.false_eq_true, if_false, hm, Sem.run_bind, hr, Result.andThen_ok, Sem.run_pure]

theorem r_neg (h : St n s a w E L) {xt : TypeId} {x : Operand} {p : Int} (hx : ev E x = some (.int .i64 p)) (h1 : -9223372036854775808 ≤ -p) (h2 : -p ≤ 9223372036854775807) : (execOp a.eval ⟨dst, .unOp .neg xt x, ty, pos, aft, g⟩).run P w = .ok (.value (.int .i64 (-p))) w := by simp [execOp, h.1.ev hx, Op.unary, Op.intArith, wrap_i64 _ h1 h2]

/-- a whole number as one of another kind -/
theorem r_conv (h : St n s a w E L) {t u : TypeId} {x : Operand} {k1 k2 : IntKind} {p : Int} {v : Value} {dd : TypeDesc} (hx : ev E x = some (.int k1 p)) (ht : P.underlying t = some dd) (hu : P.underlying u = some (.int k2))
    (hv : Value.int k2 (k2.wrap p) = v) : (execOp a.eval ⟨dst, .convert t u x, ty, pos, aft, g⟩).run P w = .ok (.value (v)) w := by
  subst hv
  simp [execOp, h.1.ev hx, convert, run_underlying ht, run_underlying hu, Conv.intToInt]


theorem r_nilCheck (h : St n s a w E L) {x : Operand} {p : Addr} (hx : ev E x = some (.pointer (some p))) : (execOp a.eval ⟨dst, .nilCheck x, ty, pos, aft, g⟩).run P w = .ok (.value (.pointer (some p))) w := by simp [execOp, h.1.ev hx]

theorem Addr.add_none (b o j : Nat) : (⟨b, o, none⟩ : Addr).add j = ⟨b, o + j, none⟩ := by
  unfold Addr.add; split <;> simp_all

theorem r_fieldAddr (h : St n s a w E L) {t : TypeId} {x : Operand} {b o i : Nat} {fs : Array Field} {f : Field} {sz by_ : Nat} (off : Nat) (hx : ev E x = some (.pointer (some ⟨b, o, none⟩))) (hu : P.underlying t = some (.struct fs)) (hf : fs[i]? = some f)
    (hs : tsz P f.type = some (sz, by_)) (hz : Nat.beq sz 0 = false) (ho : f.offset = off) : (execOp a.eval ⟨dst, .fieldAddr t x i, ty, pos, aft, g⟩).run P w = .ok (.value (.pointer (some ⟨b, o + off, none⟩))) w := by
  have hz' : sz ≠ 0 := Nat.ne_of_beq_eq_false hz
  subst ho
  simp [execOp, h.1.ev hx, Instr.fieldAt, run_underlying hu, hf, Instr.sureAddr, fieldPlace, run_sizeOf hs, hz', Addr.add_none]
theorem r_fieldAddr0 (h : St n s a w E L) {t : TypeId} {x : Operand} {b o i : Nat} {fs : Array Field} {f : Field} {sz by_ : Nat} (hx : ev E x = some (.pointer (some ⟨b, o, none⟩))) (hu : P.underlying t = some (.struct fs)) (hf : fs[i]? = some f)
    (hs : tsz P f.type = some (sz, by_)) (hz : Nat.beq sz 0 = false) (ho : f.offset = 0) : (execOp a.eval ⟨dst, .fieldAddr t x i, ty, pos, aft, g⟩).run P w = .ok (.value (.pointer (some ⟨b, o, none⟩))) w :=
  r_fieldAddr h 0 hx hu hf hs hz ho

/-! loads and stores in a block that is known whole -/
theorem r_load (h : St n s a w E L) {t : TypeId} {x : Operand} {b o : Nat} {dd : TypeDesc} (hx : ev E x = some (.pointer (some ⟨b, o, none⟩))) (hu : P.underlying t = some dd) (hf : TypeDesc.flat dd = true)
    (i : Nat) {vs : Array Value} {T : TypeId} {fr : Nat × Nat} (hi : L[i]? = some (Blk b (.cells vs T fr))) {v : Value} (hv : vs[o]? = some v)
    : (execOp a.eval ⟨dst, .load t x, ty, pos, aft, g⟩).run P w = .ok (.value (v)) w := by
  have hb := h.2.blk i hi
  have hc : w.cell? ⟨b, o, none⟩ = some v := by simp [World.cell?, hb, hv]
  simp [execOp, h.1.ev hx, Instr.loadAt, Instr.sureAddr, loadVar, run_isAgg hu, hf, hc]


theorem run_loadCells_blk (P : Program) (w : World) {b o : Nat} {us : List Value} (hc : ∀ j v, us[j]? = some v → w.cell? ⟨b, o + j, none⟩ = some v) : (loadCells ⟨b, o, none⟩ us.length).run P w = .ok us.toArray w :=
  run_loadCells_list w ⟨b, o, none⟩ us (fun j v hj => by rw [Addr.add_none]; exact hc j v hj)

/-- a struct or an array out of a block -/
theorem r_loadAgg (h : St n s a w E L) {t : TypeId} {x : Operand} {b o sz by_ : Nat} {dd : TypeDesc} (hx : ev E x = some (.pointer (some ⟨b, o, none⟩))) (hu : P.underlying t = some dd) (hf : TypeDesc.flat dd = false) (hs : tsz P t = some (sz, by_))
    (i : Nat) {vs : Array Value} {T : TypeId} {fr : Nat × Nat} (hi : L[i]? = some (Blk b (.cells vs T fr))) {us : List Value} (hv : (vs.toList.drop o).take sz = us) (hl : us.length = sz)
    : (execOp a.eval ⟨dst, .load t x, ty, pos, aft, g⟩).run P w = .ok (.value (.agg us.toArray)) w := by
  have hb := h.2.blk i hi
  have hc : (loadCells ⟨b, o, none⟩ sz).run P w = .ok us.toArray w := by
    rw [← hl]
    refine run_loadCells_blk P w (fun j v hj => ?_)
    rw [← hv, List.getElem?_take] at hj
    split at hj
    · rw [List.getElem?_drop] at hj
      simp only [World.cell?, hb]
      simpa using hj
    · cases hj
  simp [execOp, h.1.ev hx, Instr.loadAt, Instr.sureAddr, loadVar, run_isAgg hu, hf, run_sizeOf hs, hc]


def unfrozen (o : Nat) (fr : Nat × Nat) : Bool := !(Nat.ble fr.1 o && Nat.blt o fr.2)

theorem op_store (h : St n s a w E L) {t : TypeId} {x y : Operand} {b o by_ : Nat} {v : Value} (hx : ev E x = some (.pointer (some ⟨b, o, none⟩))) (hy : ev E y = some v) (hs : tsz P t = some (1, by_)) (h1 : v.oneCell' = true)
    (i : Nat) {vs : Array Value} {T : TypeId} {fr : Nat × Nat} (hi : L[i]? = some (Blk b (.cells vs T fr))) (ho : Nat.blt o vs.size = true) (hfr : unfrozen o fr = true)
    (k : ∀ a w, St n s a w E (L.set i (Blk b (.cells (vs.setIfInBounds o v) T fr))) → next a w) : (Oper.mk none (.store t x y) ty pos aft g).wp P a w next Q := by
  have hb := h.2.blk i hi
  have ho' : o < vs.size := Nat.le_of_ble_eq_true ho
  have hil : i < L.length := (List.getElem?_eq_some_iff.1 hi).1
  have hcells : v.cells = #[v] := by cases v <;> simp_all [Value.oneCell', Value.cells]
  have hcell : w.cell? ⟨b, o, none⟩ = some vs[o] := by simp [World.cell?, hb, ho']
  have hfz : w.frozen? ⟨b, o, none⟩ = false := by
    simp only [World.frozen?, hb]
    simp only [unfrozen, Bool.not_eq_true', Bool.and_eq_false_iff] at hfr
    rcases hfr with e | e
    · have : ¬ fr.1 ≤ o := fun hh => by rw [Nat.ble_eq_true_of_le hh] at e; cases e
      simp [this]
    · have : ¬ o < fr.2 := fun hh => by rw [show Nat.blt o fr.2 = true from Nat.ble_eq_true_of_le hh] at e; cases e
      simp [this]
  have hst : (store ⟨b, o, none⟩ v).run P w = .ok () (w.setCell ⟨b, o, none⟩ v) := by
    rw [run_store P w _ v .plain h1, hcell]; simp [hfz]
  refine op_run_skip h (w' := w.setCell ⟨b, o, none⟩ v) ?_ ?_ k
  · simp [execOp, h.1.ev hx, h.1.ev hy, Instr.storeAt, Instr.sureAddr, storeVar, hcells, run_sizeOf hs, storeCells, Addr.add_none, hst]
  · have hs2 := (h.2.front i hi)
    have hb2 : (w.setCell ⟨b, o, none⟩ v).heap[b]? = some (.cells (vs.setIfInBounds o v) T fr) := by
      simp [World.setCell, Array.getElem?_modify, hb]
    have := Sat.turn (o' := .cells (vs.setIfInBounds o v) T fr) hs2 (w' := w.setCell ⟨b, o, none⟩ v) rfl rfl rfl hb2 (fun k hk => by simp [World.setCell, Array.getElem?_modify, Ne.symm hk])
    exact ⟨this.1, this.2.1, this.2.2.1, sepL_set hil this.2.2.2⟩

end
end Go.Sl

/- A small library for walks, part E: slices that are read. No statement is proved here. -/
namespace Go.Sl

/-! ### Slices: what one reads, and one that is a call's own -/
def NF (fr : Nat × Nat) (size : Nat) : Prop := ∀ j, j < size → ¬ (fr.1 ≤ j ∧ j < fr.2)

def RDh (size : Nat) (v : Value) (n : Nat) (xs : List Value) (h : HM) : Prop :=
  xs.length = n * size ∧ ∃ A cap, v = .slice A n cap ∧ n ≤ cap ∧ cap ≤ maxLen ∧
    (n = 0 ∨ ∃ g o cur e fr, A = some ⟨g, o, none⟩ ∧ h g = some (.cells cur e fr) ∧ (cur.toList.drop o).take (n * size) = xs)

theorem RDh.mono {size : Nat} {v : Value} {n : Nat} {xs : List Value} {h h' : HM} (hl : HM.le h h') (r : RDh size v n xs h) : RDh size v n xs h' := by
  obtain ⟨h1, A, cap, h2, h3, h4, h5⟩ := r
  refine ⟨h1, A, cap, h2, h3, h4, ?_⟩
  rcases h5 with h5 | ⟨g, o, cur, e, fr, h6, h7, h8⟩
  · exact .inl h5
  · exact .inr ⟨g, o, cur, e, fr, h6, hl _ _ h7, h8⟩

/-- a slice that reads as xs, as an item -/
def Rd (size : Nat) (v : Value) (n : Nat) (xs : List Value) : HItem := ⟨RDh size v n xs, fun _ _ hl r => r.mono hl⟩
/-- in whatever world that bears the items L, the slice v reads as xs: n elements of size cells each -/
def Views (L : List HItem) (size : Nat) (v : Value) (n : Nat) (xs : List Value) : Prop := ∀ h, sepL L h → RDh size v n xs h

theorem Views.cons {L : List HItem} {size : Nat} {v : Value} {n : Nat} {xs : List Value} (hv : Views L size v n xs) (I : HItem) : Views (I :: L) size v n xs :=
  fun h hs => hv h (sepL_tail hs)
theorem Views.of_drop {L : List HItem} {size : Nat} {v : Value} {n : Nat} {xs : List Value} (k : Nat) (hv : Views (L.drop k) size v n xs) : Views L size v n xs :=
  fun h hs => hv h (sepL_drop k L h hs)
theorem Views.of_mem {L : List HItem} {size : Nat} {v : Value} {n : Nat} {xs : List Value} (i : Nat) {I : HItem} (hi : L[i]? = some I) (hv : ∀ h, I.P h → RDh size v n xs h) : Views L size v n xs := by
  intro h hs
  obtain ⟨D, hI, _⟩ := sepL_front L i I h hi hs
  exact (hv _ hI).mono restr_le
theorem Views.length {L : List HItem} {size : Nat} {v : Value} {n : Nat} {xs : List Value} (hv : Views L size v n xs) {s w : World} (hs : Sat s w L) : xs.length = n * size := (hv _ hs.2.2.2).1
theorem Views.shape {L : List HItem} {size : Nat} {v : Value} {n : Nat} {xs : List Value} (hv : Views L size v n xs) {s w : World} (hs : Sat s w L) : ∃ A cap, v = .slice A n cap ∧ n ≤ cap ∧ cap ≤ maxLen :=
  let ⟨_, A, cap, h1, h2, h3, _⟩ := hv _ hs.2.2.2
  ⟨A, cap, h1, h2, h3⟩
theorem Views.nil (L : List HItem) (size : Nat) : Views L size (.slice none 0 0) 0 [] := fun h _ => ⟨by simp, none, 0, rfl, Nat.le_refl _, Nat.zero_le _, .inl rfl⟩

/-- a slice that is a call's own: it may be written, and appended to -/
def Own (size : Nat) (v : Value) (n : Nat) (xs : List Value) : HItem where
  P := fun h => xs.length = n * size ∧ ((v = .slice none 0 0 ∧ n = 0) ∨
    ∃ g o cap cur e fr, v = .slice (some ⟨g, o, none⟩) n cap ∧ h g = some (.cells cur e fr) ∧ NF fr cur.size ∧ n ≤ cap ∧ cap ≤ maxLen ∧ o + cap * size ≤ cur.size ∧ (cur.toList.drop o).take (n * size) = xs)
  mono := by
    intro h h' hl ⟨h1, h2⟩
    refine ⟨h1, ?_⟩
    rcases h2 with h2 | ⟨g, o, cap, cur, e, fr, h3, h4, h5⟩
    · exact .inl h2
    · exact .inr ⟨g, o, cap, cur, e, fr, h3, hl _ _ h4, h5⟩

theorem Own.reads {size : Nat} {v : Value} {n : Nat} {xs : List Value} {h : HM} (ho : (Own size v n xs).P h) : RDh size v n xs h := by
  obtain ⟨h1, h2⟩ := ho
  refine ⟨h1, ?_⟩
  rcases h2 with ⟨rfl, rfl⟩ | ⟨g, o, cap, cur, e, fr, h3, h4, h5, h6, h7, h8, h9⟩
  · exact ⟨none, 0, rfl, Nat.le_refl _, Nat.zero_le _, .inl rfl⟩
  · exact ⟨_, cap, h3, h6, h7, .inr ⟨g, o, cur, e, fr, rfl, h4, h9⟩⟩

theorem Views.own {L : List HItem} {size : Nat} {v : Value} {n : Nat} {xs : List Value} (i : Nat) (hi : L[i]? = some (Own size v n xs)) : Views L size v n xs :=
  Views.of_mem i hi fun _ => Own.reads

theorem Views.rd {L : List HItem} {size : Nat} {v : Value} {n : Nat} {xs : List Value} (i : Nat) (hi : L[i]? = some (Rd size v n xs)) : Views L size v n xs :=
  Views.of_mem i hi fun _ h => h
theorem Sat.rd0 {s w : World} {L : List HItem} {size : Nat} {v : Value} {n : Nat} {xs : List Value} (h : Sat s w (Own size v n xs :: L)) : Sat s w (Rd size v n xs :: L) := by
  obtain ⟨h1, h2, h3, D, hI, hL⟩ := h
  exact ⟨h1, h2, h3, D, Own.reads hI, hL⟩

theorem Views.blk {L : List HItem} {b o : Nat} {n cap size : Nat} {vs : Array Value} {T : TypeId} {fr : Nat × Nat} {xs : List Value} (i : Nat) (hi : L[i]? = some (Blk b (.cells vs T fr)))
    (hn : Nat.ble n cap = true) (hc : Nat.ble cap maxLen = true) (hx : (vs.toList.drop o).take (n * size) = xs) (hl : xs.length = n * size) : Views L size (.slice (some ⟨b, o, none⟩) n cap) n xs :=
  Views.of_mem i hi fun h hb => ⟨hl, _, cap, rfl, Nat.le_of_ble_eq_true hn, Nat.le_of_ble_eq_true hc, .inr ⟨b, o, vs, T, fr, rfl, hb, hx⟩⟩

/-- a new slice with its own block is a call's own -/
theorem Sat.toOwn {s w : World} {L : List HItem} {b : Nat} {vs : Array Value} {T : TypeId} {fr : Nat × Nat} (hs : Sat s w (Blk b (.cells vs T fr) :: L)) (size n : Nat) {xs : List Value} (hf : NF fr vs.size) (hm : n ≤ maxLen) (hx : vs.toList = xs) (hn : vs.size = n * size) :
    Sat s w (Own size (.slice (some ⟨b, 0, none⟩) n n) n xs :: L) := by
  subst hx
  obtain ⟨h1, h2, h3, D, hI, hL⟩ := hs
  refine ⟨h1, h2, h3, D, ⟨by simpa using hn, .inr ⟨b, 0, n, vs, T, fr, rfl, hI, hf, Nat.le_refl _, hm, by omega, ?_⟩⟩, hL⟩
  simp only [List.drop_zero, ← hn]
  exact List.take_of_length_le (by simp)

def CellsAt (L : List HItem) (p : Addr) (us : List Value) : Prop := p.spot = none ∧ ∀ h, sepL L h → ∃ cur e fr, h p.block = some (.cells cur e fr) ∧ ∀ j u, us[j]? = some u → cur[p.off + j]? = some u

theorem CellsAt.get {L : List HItem} {p : Addr} {us : List Value} (hc : CellsAt L p us) {s w : World} (hs : Sat s w L) {j : Nat} {u : Value} (hj : us[j]? = some u) : w.cell? ⟨p.block, p.off + j, none⟩ = some u := by
  obtain ⟨cur, e, fr, h1, h2⟩ := hc.2 _ hs.2.2.2
  have h1' : w.heap[p.block]? = some (.cells cur e fr) := h1
  simp [World.cell?, h1', h2 j u hj]
theorem CellsAt.cons {L : List HItem} {p : Addr} {us : List Value} (hc : CellsAt L p us) (I : HItem) : CellsAt (I :: L) p us := ⟨hc.1, fun h hs => hc.2 h (sepL_tail hs)⟩
theorem CellsAt.of_mem {L : List HItem} {b o : Nat} {vs : Array Value} {T : TypeId} {fr : Nat × Nat} {us : List Value} (i : Nat) (hi : L[i]? = some (Blk b (.cells vs T fr))) (hu : ∀ j u, us[j]? = some u → vs[o + j]? = some u) : CellsAt L ⟨b, o, none⟩ us :=
  ⟨rfl, fun h hs => by
    obtain ⟨D, hI, _⟩ := sepL_front L i _ h hi hs
    exact ⟨vs, T, fr, restr_le _ _ hI, hu⟩⟩

theorem Views.cell {L : List HItem} {size : Nat} {v : Value} {n : Nat} {xs : List Value} (hv : Views L size v n xs) {s w : World} (hs : Sat s w L) {k : Nat} (hk : k < n) {us : List Value} (hu : (xs.drop (k * size)).take size = us) :
    ∃ g o cap, v = .slice (some ⟨g, o, none⟩) n cap ∧ CellsAt L ⟨g, o + k * size, none⟩ us := by
  obtain ⟨h1, A, cap, h2, h3, h4, h5⟩ := hv _ hs.2.2.2
  rcases h5 with h5 | ⟨g, o, cur, e, fr, rfl, h6, h7⟩
  · omega
  · refine ⟨g, o, cap, h2, rfl, fun h hh => ?_⟩
    obtain ⟨_, A', cap', h2', h3', h4', h5'⟩ := hv h hh
    rw [h2] at h2'
    simp only [Value.slice.injEq] at h2'
    obtain ⟨rfl, _, rfl⟩ := h2'
    rcases h5' with h5' | ⟨g', o', cur', e', fr', hg, h6', h7'⟩
    · omega
    · simp only [Option.some.injEq, Addr.mk.injEq, and_true] at hg
      obtain ⟨rfl, rfl⟩ := hg
      refine ⟨cur', e', fr', h6', fun j u hj => ?_⟩
      rw [← hu, List.getElem?_take] at hj
      split at hj
      · rename_i hjs
        rw [List.getElem?_drop, ← h7', List.getElem?_take] at hj
        split at hj
        · rw [List.getElem?_drop] at hj
          simpa [Nat.add_assoc] using hj
        · cases hj
      · cases hj

section
variable {P : Program} {n : Nat} {s w : World} {a : Act} {E : List (Nat × Value)} {L : List HItem} {Q : Exit → Act → World → Prop} {next : Act → World → Prop}
variable {d : Nat} {dst : Option Nat} {ty : TypeId} {pos : String} {aft : Array Edge} {g : Option (Nat × Bool)}

theorem r_lenV (h : St n s a w E L) {t el : TypeId} {x : Operand} {size N : Nat} {v : Value} {xs : List Value} (hx : ev E x = some v) (hu : P.underlying t = some (.slice el)) (hv : Views L size v N xs) : (execOp a.eval ⟨dst, .call { callee := .builtin .len, args := #[x], argTypes := #[t] }, ty, pos, aft, g⟩).run P w = .ok (.value (.int .i64 (N : Int))) w := by
  obtain ⟨A, cap, rfl, _⟩ := hv.shape h.2
  exact (by simp [execOp, resolve, invoke, builtin, h.1.ev hx, Builtin.len_, run_underlying hu, goInt])

theorem r_lenS (h : St n s a w E L) {t el : TypeId} {x : Operand} {N cap : Nat} {A : Option Addr} (hx : ev E x = some (.slice A N cap)) (hu : P.underlying t = some (.slice el)) : (execOp a.eval ⟨dst, .call { callee := .builtin .len, args := #[x], argTypes := #[t] }, ty, pos, aft, g⟩).run P w = .ok (.value (.int .i64 (N : Int))) w := by simp [execOp, resolve, invoke, builtin, h.1.ev hx, Builtin.len_, run_underlying hu, goInt]

theorem r_lenT (h : St n s a w E L) {t : TypeId} {x : Operand} {l : List UInt8} (hx : ev E x = some (.string ⟨⟨l⟩⟩)) (hu : P.underlying t = some .string) : (execOp a.eval ⟨dst, .call { callee := .builtin .len, args := #[x], argTypes := #[t] }, ty, pos, aft, g⟩).run P w = .ok (.value (.int .i64 (l.length : Int))) w := by
  have e : (⟨⟨l⟩⟩ : ByteArray).size = l.length := rfl
  exact (by simp [execOp, resolve, invoke, builtin, h.1.ev hx, Builtin.len_, run_underlying hu, goInt, e])

theorem r_lenA (h : St n s a w E L) {t el : TypeId} {x : Operand} {v : Value} {N : Nat} (hx : ev E x = some v) (hu : P.underlying t = some (.array N el)) : (execOp a.eval ⟨dst, .call { callee := .builtin .len, args := #[x], argTypes := #[t] }, ty, pos, aft, g⟩).run P w = .ok (.value (.int .i64 (N : Int))) w := by
  simp only [execOp, resolve, invoke, builtin, Sem.run_bind, Sem.run_pure, Result.andThen_ok]
  simp [h.1.ev hx, Builtin.len_, run_underlying hu, goInt]


/-- the address of an element that is read -/
theorem op_indexAddr (h : St n s a w E L) {t el : TypeId} {x ix : Operand} {size N by_ : Nat} {v : Value} {xs : List Value} {k1 : IntKind} {c : Int} (hx : ev E x = some v) (hi : ev E ix = some (.int k1 c)) (hu : P.underlying t = some (.slice el)) (hs : tsz P el = some (size, by_))
    (hv : Views L size v N xs) (j : Nat) (hj : c = (j : Int)) (hlt : j < N) {us : List Value} (hus : (xs.drop (j * size)).take size = us)
    (hd : Nat.blt d n = true) (k : ∀ p a w, CellsAt L p us → St n s a w ((d, .pointer (some p)) :: E) L → next a w) : (Oper.mk (some d) (.indexAddr t x ix) ty pos aft g).wp P a w next Q := by
  obtain ⟨b, o, cap, rfl, hc⟩ := hv.cell h.2 hlt hus
  refine op_run h (v := .pointer (some ⟨b, o + j * size, none⟩)) (w' := w) ?_ hd h.2 (k _ · · hc)
  subst hj
  have h2 : (0 : Int) ≤ (j : Int) ∧ (j : Int) < (N : Int) := by omega
  have h3 : ¬ N ≤ j := by omega
  simp [execOp, h.1.ev hx, h.1.ev hi, Instr.indexAt, asIntOf, run_underlying hu, run_sizeOf hs, hlt, h3, Addr.add_none]

/-- a cell that is read, out of what an address bears -/
theorem r_loadC (h : St n s a w E L) {t : TypeId} {x : Operand} {p q : Addr} {us : List Value} {dd : TypeDesc} (hx : ev E x = some (.pointer (some q))) (hu : P.underlying t = some dd) (hf : TypeDesc.flat dd = true)
    (hc : CellsAt L p us) (j : Nat) (hq : q = p ∧ j = 0 ∨ q = ⟨p.block, p.off + j, none⟩) {v : Value} (hj : us[j]? = some v)
    : (execOp a.eval ⟨dst, .load t x, ty, pos, aft, g⟩).run P w = .ok (.value (v)) w := by
  have hcell := hc.get h.2 hj
  have hq' : q = ⟨p.block, p.off + j, none⟩ := by
    rcases hq with ⟨rfl, rfl⟩ | hq
    · obtain ⟨b, o, sp⟩ := q; have := hc.1; simp at this; subst this; simp
    · exact hq
  subst hq'
  simp [execOp, h.1.ev hx, Instr.loadAt, Instr.sureAddr, loadVar, run_isAgg hu, hf, hcell]


/-- an element of one cell -/
theorem r_load1 (h : St n s a w E L) {t : TypeId} {x : Operand} {p : Addr} {v : Value} {dd : TypeDesc} (hx : ev E x = some (.pointer (some p))) (hu : P.underlying t = some dd) (hf : TypeDesc.flat dd = true)
    (hc : CellsAt L p [v]) : (execOp a.eval ⟨dst, .load t x, ty, pos, aft, g⟩).run P w = .ok (.value (v)) w :=
  r_loadC h hx hu hf hc 0 (.inl ⟨rfl, rfl⟩) rfl


/-- a whole struct, or array, of a place that is read -/
theorem r_loadCA (h : St n s a w E L) {t : TypeId} {x : Operand} {p : Addr} {us : List Value} {sz by_ : Nat} {dd : TypeDesc} (hx : ev E x = some (.pointer (some p))) (hu : P.underlying t = some dd) (hf : TypeDesc.flat dd = false) (hs : tsz P t = some (sz, by_))
    (hc : CellsAt L p us) (hl : us.length = sz) : (execOp a.eval ⟨dst, .load t x, ty, pos, aft, g⟩).run P w = .ok (.value (.agg us.toArray)) w := by
  obtain ⟨b, o, sp⟩ := p
  have hsp := hc.1
  simp at hsp
  subst hsp
  have hcs : (loadCells ⟨b, o, none⟩ sz).run P w = .ok us.toArray w := by
    rw [← hl]
    exact run_loadCells_blk P w (fun j v hj => hc.get h.2 hj)
  simp [execOp, h.1.ev hx, Instr.loadAt, Instr.sureAddr, loadVar, run_isAgg hu, hf, run_sizeOf hs, hcs]


/-- a field of a place that is read -/
theorem op_fieldC (h : St n s a w E L) {t : TypeId} {x : Operand} {p : Addr} {us : List Value} {i : Nat} {fs : Array Field} {f : Field} {sz by_ : Nat} (off : Nat) (hx : ev E x = some (.pointer (some p))) (hu : P.underlying t = some (.struct fs)) (hf : fs[i]? = some f)
    (hs : tsz P f.type = some (sz, by_)) (hz : Nat.beq sz 0 = false) (ho : f.offset = off) (hc : CellsAt L p us) (hd : Nat.blt d n = true) (k : ∀ q a w, CellsAt L q (us.drop off) → St n s a w ((d, .pointer (some q)) :: E) L → next a w) :
    (Oper.mk (some d) (.fieldAddr t x i) ty pos aft g).wp P a w next Q := by
  obtain ⟨b, o, sp⟩ := p
  have hsp := hc.1
  simp at hsp
  subst hsp
  refine op_run h (r_fieldAddr h off hx hu hf hs hz ho) hd h.2 (k _ · · ⟨rfl, fun hh hhs => ?_⟩)
  obtain ⟨cur, e, fr, h1, h2⟩ := hc.2 hh hhs
  refine ⟨cur, e, fr, h1, fun j u hj => ?_⟩
  rw [List.getElem?_drop] at hj
  have := h2 _ u hj
  simpa [Nat.add_assoc] using this

end
end Go.Sl

/- A small library for walks, part F: append. No statement is proved here. -/
namespace Go.Sl

def splice (cur : Array Value) (j : Nat) (vs : List Value) : Array Value := (cur.toList.take j ++ vs ++ cur.toList.drop (j + vs.length)).toArray
theorem splice_size (cur : Array Value) (j : Nat) (vs : List Value) (h : j + vs.length ≤ cur.size) : (splice cur j vs).size = cur.size := by
  simp only [splice, List.size_toArray, List.length_append, List.length_take, List.length_drop, Array.length_toList]
  omega
theorem splice_set (cur : Array Value) (j : Nat) (v : Value) (vs : List Value) (h : j + 1 + vs.length ≤ cur.size) : splice (cur.setIfInBounds j v) (j + 1) vs = splice cur j (v :: vs) := by
  apply Array.ext'
  simp only [splice, Array.toList_setIfInBounds]
  have hj : j < cur.toList.length := by simp; omega
  rw [List.take_set, List.take_succ_eq_append_getElem hj, List.set_append_right _ _ (by simp; omega)]
  have e : j - (cur.toList.take j).length = 0 := by simp; omega
  rw [e]
  simp only [List.set_cons_zero, List.length_cons]
  rw [List.drop_set_of_lt (by omega)]
  simp [Nat.add_assoc, Nat.add_comm 1]

theorem run_storeCells_gen (P : Program) (g : Nat) (T : TypeId) (fr : Nat × Nat) (off : Nat) : ∀ (vs : List Value) (i : Nat) (cur : Array Value) (w : World), w.heap[g]? = some (.cells cur T fr) → off + i + vs.length ≤ cur.size → NF fr cur.size →
    (∀ v ∈ vs, v.oneCell' = true) → ∃ w', (storeCells ⟨g, off, none⟩ vs i).run P w = .ok () w' ∧ w'.os = w.os ∧ w'.tape = w.tape ∧ w'.output = w.output ∧ w'.heap[g]? = some (.cells (splice cur (off + i) vs) T fr) ∧ ∀ k, k ≠ g → w'.heap[k]? = w.heap[k]?
  | [], i, cur, w, hg, _, _, _ => ⟨w, rfl, rfl, rfl, rfl, by simpa [splice] using hg, fun _ _ => rfl⟩
  | v :: vs, i, cur, w, hg, hl, hf, h1 => by
    simp only [List.length_cons] at hl
    have hlt : off + i < cur.size := by omega
    have hcell : w.cell? ⟨g, off + i, none⟩ = some cur[off + i] := by simp [World.cell?, hg, hlt]
    have hfz : w.frozen? ⟨g, off + i, none⟩ = false := by
      simp only [World.frozen?, hg]
      have := hf (off + i) hlt
      simp; omega
    have hst : (store ((⟨g, off, none⟩ : Addr).add i) v).run P w = .ok () (w.setCell ⟨g, off + i, none⟩ v) := by
      rw [Addr.add_none, run_store P w _ v .plain (h1 v (by simp)), hcell]; simp [hfz]
    have hg2 : (w.setCell ⟨g, off + i, none⟩ v).heap[g]? = some (.cells (cur.setIfInBounds (off + i) v) T fr) := by
      simp [World.setCell, Array.getElem?_modify, hg]
    obtain ⟨w', hr, ho, ht, hu, hh, hk⟩ := run_storeCells_gen P g T fr off vs (i + 1) (cur.setIfInBounds (off + i) v) (w.setCell ⟨g, off + i, none⟩ v) hg2 (by simp; omega) (by simpa using hf) (fun u hu => h1 u (by simp [hu]))
    refine ⟨w', ?_, ho, ht, hu, ?_, ?_⟩
    · simp only [storeCells, Sem.run_bind, hst, Result.andThen_ok]; exact hr
    · rw [hh, ← Nat.add_assoc, splice_set _ _ _ _ (by omega)]
    · intro k hkg
      rw [hk k hkg]
      simp [World.setCell, Array.getElem?_modify, Ne.symm hkg]

def notInt : TypeDesc → Bool
  | .int _ => false
  | _ => true

/-- what is appended, or copied: m elements, these cells -/
structure Src (P : Program) (L : List HItem) (size : Nat) (t : TypeId) (vx : Value) (m : Nat) (news : List Value) : Prop where
  len : ∀ w, (Builtin.lenOf vx).run P w = .ok m w
  cells : ∀ s w, Sat s w L → (Builtin.firstCells size m vx).run P w = .ok news.toArray w
  length : news.length = m * size
  type : ∃ d, P.underlying t = some d ∧ notInt d = true

theorem RDh.cells {size : Nat} {v : Value} {m : Nat} {xs : List Value} (P : Program) {w : World} (r : RDh size v m xs (hmOf w)) (m' : Nat) (hm : m' ≤ m) : (Builtin.firstCells size m' v).run P w = .ok (xs.take (m' * size)).toArray w := by
  obtain ⟨h1, A, cap, rfl, h2, h3, h4⟩ := r
  rcases h4 with h4 | ⟨g, o, cur, e, fr, rfl, h5, h6⟩
  · subst h4
    have : m' = 0 := by omega
    subst this
    have hx : xs = [] := List.eq_nil_of_length_eq_zero (by simpa using h1)
    subst hx
    cases A <;> simp [Builtin.firstCells, loadCells, loadCellsFrom]
  · have hl : (xs.take (m' * size)).length = m' * size := by
      rw [List.length_take, h1]
      exact Nat.min_eq_left (Nat.mul_le_mul_right _ hm)
    have key := run_loadCells_blk P w (b := g) (o := o) (us := xs.take (m' * size)) (fun j u hj => by
      have h5' : w.heap[g]? = some (.cells cur e fr) := h5
      have hj2 : xs[j]? = some u := by rw [List.getElem?_take] at hj; split at hj <;> simp_all
      rw [← h6, List.getElem?_take] at hj2
      split at hj2
      · rw [List.getElem?_drop] at hj2
        simp only [World.cell?, h5']
        simpa using hj2
      · cases hj2)
    rw [hl] at key
    exact key

theorem Src.views {P : Program} {L : List HItem} {size : Nat} {t el : TypeId} {vx : Value} {m : Nat} {news : List Value} (hu : P.underlying t = some (.slice el)) (hv : Views L size vx m news) {s w : World} (hs : Sat s w L) : Src P L size t vx m news := by
  refine ⟨?_, ?_, hv.length hs, _, hu, rfl⟩
  · obtain ⟨A, cap, rfl, _⟩ := hv.shape hs
    intro w; simp [Builtin.lenOf]
  · intro s w hs
    have := (hv _ hs.2.2.2).cells P (w := w) m (Nat.le_refl _)
    rw [this, ← hv.length hs, List.take_length]

theorem Src.text {P : Program} {L : List HItem} {t : TypeId} {l : List UInt8} (hu : P.underlying t = some .string) : Src P L 1 t (.string ⟨⟨l⟩⟩) l.length (bs l) := by
  refine ⟨?_, ?_, by simp [bs], _, hu, rfl⟩
  · intro w; simp [Builtin.lenOf]; rfl
  · intro s w _
    have e : (⟨⟨l⟩⟩ : ByteArray).extract 0 l.length = ⟨⟨l⟩⟩ := by
      rw [Lib.extract_eq]; simp
    simp only [Builtin.firstCells, e, Sem.run_pure]
    congr 1
    apply Array.ext'
    simp [bs, bv]

theorem take_drop_splice (cur : Array Value) (o k : Nat) (vs : List Value) (h : o + k + vs.length ≤ cur.size) : ((splice cur (o + k) vs).toList.drop o).take (k + vs.length) = (cur.toList.drop o).take k ++ vs := by
  simp only [splice, List.append_assoc]
  rw [List.drop_append_of_le_length (by simp; omega)]
  have e : (cur.toList.take (o + k)).drop o = (cur.toList.drop o).take k := by rw [List.drop_take]; congr 1; omega
  rw [e]
  have hl : ((cur.toList.drop o).take k).length = k := by simp; omega
  rw [← List.append_assoc]
  exact List.take_left' (by simp [hl])

section
variable {P : Program} {n : Nat} {s w : World} {a : Act} {E : List (Nat × Value)} {L : List HItem} {Q : Exit → Act → World → Prop} {next : Act → World → Prop}
variable {d : Nat} {ty : TypeId} {pos : String} {aft : Array Edge} {g : Option (Nat × Bool)}

theorem run_append_gen {t t2 el : TypeId} {size bytes N m : Nat} {z v vx : Value} {xs news : List Value} (hu : P.underlying t = some (.slice el)) (hs : tsz P el = some (size, bytes)) (hz : tzero P el = some z) (hzs : z.cells.size = size) (hby : Nat.ble bytes 4096 = true)
    (S : Src P L size t2 vx m news) (h1 : ∀ u ∈ news, u.oneCell' = true) (hN : N + m ≤ 4294967296) (i : Nat) (hi : L[i]? = some (Own size v N xs)) (hw : Sat s w L) :
    ∃ v' w', (Builtin.append_ #[t, t2] ty #[v, vx]).run P w = .ok v' w' ∧ Sat s w' (L.set i (Own size v' (N + m) (xs ++ news))) ∧ Sat s w' (L.set i (Rd size v N xs)) := by
  have hby' : bytes ≤ 4096 := Nat.le_of_ble_eq_true hby
  obtain ⟨inf, hinf, rfl, rfl⟩ := tsz_some hs
  have hil : i < L.length := (List.getElem?_eq_some_iff.1 hi).1
  obtain ⟨dt, hdt, hni⟩ := S.type
  have hb47 : (N + m) * inf.bytes ≤ 140737488355328 := Nat.le_trans (Nat.mul_le_mul hN hby') (by decide)
  have hz' : inf.zero = some z := by simpa [tzero, hinf] using hz
  have hF := hw.front i hi
  obtain ⟨e1, e2, e3, D, hI, hL⟩ := hF
  obtain ⟨I0, hI0, hI0r⟩ : ∃ I0 : HItem, I0.P (restr D (hmOf w)) ∧ ∀ h, I0.P h → (Rd inf.size v N xs).P h := ⟨Own inf.size v N xs, hI, fun _ h => Own.reads h⟩
  obtain ⟨hxl, hI⟩ := hI
  have hlen := S.len w
  have hty : ∀ w, (do pure ((← underlying t2) matches .int _) : Sem Bool).run P w = .ok false w := by
    intro w
    rw [Sem.run_bind, run_underlying hdt]
    cases dt <;> first | rfl | (simp [notInt] at hni)
  -- the arm that grows
  have grow : ∀ (A : Option Addr) (cap : Nat), v = .slice A N cap → cap < N + m → ∃ v' w', (Builtin.append_ #[t, t2] ty #[v, vx]).run P w = .ok v' w' ∧ Sat s w' (L.set i (Own inf.size v' (N + m) (xs ++ news))) ∧ Sat s w' (L.set i (Rd inf.size v N xs)) := by
    intro A cap hv hc
    subst hv
    have hfit : Builtin.nextslicecap (N + m) cap * inf.bytes ≤ 281474976710656 := growslice_fits hc hb47
    have hold : (Builtin.firstCells inf.size N (.slice A N cap)).run P w.drew = .ok xs.toArray w.drew := by
      have hr : RDh inf.size (.slice A N cap) N xs (hmOf w.drew) := (Own.reads (h := restr D (hmOf w)) ⟨hxl, hI⟩).mono restr_le
      have := hr.cells P (w := w.drew) N (Nat.le_refl _)
      rw [this, ← hxl, List.take_length]
    have hwd : Sat s w.drew L := hw.congr rfl rfl rfl rfl
    have hnew := S.cells s w.drew hwd
    have hn1 : ¬ (N + m ≤ cap) := by omega
    have hn2 : ¬ (9223372036854775807 < (N : Int) + (m : Int)) := by omega
    have hn3 : ¬ (281474976710656 < Builtin.nextslicecap (N + m) cap * inf.bytes) := by omega
    refine ⟨.slice (some ⟨w.heap.size, 0, none⟩) (N + m) (grownCap w (N + m) cap el), w.drew.alloc (.cells (xs.toArray ++ news.toArray ++ Builtin.zeroCells z.cells (grownCap w (N + m) cap el - (N + m))) el), ?_, ?_, ?_⟩
    · have ht1 := hty w
      simp only [Sem.run_bind] at ht1
      simp [Builtin.append_, run_underlying hu, run_underlying hdt, sizeOf, typeInfo, hinf, hlen, hn1, hn2, hn3, Question.forced, zeroValue, hz', hold, hnew, newRow, grownCap]
      cases dt <;> first | (simp [notInt] at hni; done) | (simp [hlen, hn1, hn2, hn3, Question.forced, zeroValue, hz', hold, hnew, newRow, grownCap, typeInfo, hinf]; congr 2; apply Array.ext'; simp [List.append_assoc])
    · have hge := grownCap_ge w (N + m) cap el
      have hcm : grownCap w (N + m) cap el ≤ maxLen := grownCap_le_maxLen w (N + m) cap el (by simp [maxLen]; omega)
      have hsa := (Sat.alloc (s := s) (w := w.drew) (L := L.eraseIdx i) ⟨e1, e2, e3, sepL_mono _ restr_le hL⟩ (.cells (xs.toArray ++ news.toArray ++ Builtin.zeroCells z.cells (grownCap w (N + m) cap el - (N + m))) el))
      obtain ⟨f1, f2, f3, D', hI', hL'⟩ := hsa
      refine ⟨f1, f2, f3, sepL_set hil ⟨D', ⟨?_, .inr ⟨_, 0, _, _, el, (0, 0), rfl, hI', ?_, hge, hcm, ?_, ?_⟩⟩, hL'⟩⟩
      · rw [List.length_append, hxl, S.length, Nat.add_mul]
      · intro j _ h; simp at h
      · simp only [Array.size_append, List.size_toArray, size_zeroCells, hzs, hxl, S.length, ← Nat.add_mul]
        rw [Nat.zero_add]
        exact Nat.le_of_eq (by congr 1; omega)
      · simp only [Array.toList_append, List.append_assoc, List.drop_zero]
        rw [← List.append_assoc]
        exact List.take_left' (by rw [List.length_append, hxl, S.length, Nat.add_mul])
    · have hsa := (Sat.alloc (s := s) (w := w.drew) (L := I0 :: L.eraseIdx i) ⟨e1, e2, e3, D, hI0, hL⟩ (.cells (xs.toArray ++ news.toArray ++ Builtin.zeroCells z.cells (grownCap w (N + m) cap el - (N + m))) el)).drop 1
      obtain ⟨f1, f2, f3, D', hI', hL'⟩ := hsa
      exact ⟨f1, f2, f3, sepL_set hil ⟨D', hI0r _ hI', hL'⟩⟩
  rcases hI with ⟨rfl, rfl⟩ | ⟨b, o, cap, cur, e, fr, rfl, hb, hfr, hnc, hcm, hcs, hx⟩
  · by_cases hm : m = 0
    · subst hm
      have hn : news = [] := List.eq_nil_of_length_eq_zero (by simpa using S.length)
      have hx : xs = [] := List.eq_nil_of_length_eq_zero (by simpa using hxl)
      subst hn; subst hx
      have hnew := S.cells s w hw
      refine ⟨.slice none 0 0, w, ?_, ⟨e1, e2, e3, sepL_set hil ⟨D, ⟨by simp, .inl ⟨rfl, rfl⟩⟩, hL⟩⟩, ⟨e1, e2, e3, sepL_set hil ⟨D, hI0r _ hI0, hL⟩⟩⟩
      simp [Builtin.append_, run_underlying hu, run_underlying hdt, sizeOf, typeInfo, hinf]
      cases dt <;> first | (simp [notInt] at hni; done) | simp [hlen, hnew]
    · exact grow none 0 rfl (by omega)
  · by_cases hroom : N + m ≤ cap
    · have hb' : w.heap[b]? = some (.cells cur e fr) := restr_le b _ hb
      have hcap : (N + m) * inf.size ≤ cap * inf.size := Nat.mul_le_mul_right _ hroom
      rw [Nat.add_mul] at hcap
      have hnew := S.cells s w hw
      obtain ⟨w', hr, g1, g2, g3, g4, g5⟩ := run_storeCells_gen P b e fr (o + N * inf.size) news 0 cur w hb' (by rw [S.length]; omega) hfr h1
      refine ⟨.slice (some ⟨b, o, none⟩) (N + m) cap, w', ?_, ?_⟩
      · simp [Builtin.append_, run_underlying hu, run_underlying hdt, sizeOf, typeInfo, hinf]
        cases dt <;> first | (simp [notInt] at hni; done) | simp [hlen, hroom, hnew, Addr.add_none, hr]
      · have hD : D b = true := by
          simp only [restr] at hb
          split at hb
          · assumption
          · cases hb
        have hrest : sepL (L.eraseIdx i) (restr (fun b => !D b) (hmOf w')) := by
          refine sepL_mono _ ?_ hL
          intro k u hk
          simp only [restr] at hk ⊢
          split at hk
          · rename_i hk'
            rw [if_pos hk']
            have : k ≠ b := by intro ee; subst ee; simp [hD] at hk'
            show w'.heap[k]? = some u
            rw [g5 k this]; exact hk
          · cases hk
        have hown : (Own inf.size (.slice (some ⟨b, o, none⟩) (N + m) cap) (N + m) (xs ++ news)).P (restr D (hmOf w')) := by
          refine ⟨?_, .inr ⟨b, o, cap, splice cur (o + N * inf.size + 0) news, e, fr, rfl, ?_, ?_, hroom, hcm, ?_, ?_⟩⟩
          · rw [List.length_append, hxl, S.length, Nat.add_mul]
          · show restr D (hmOf w') b = _
            simp only [restr, hD, if_true]
            exact g4
          · rw [splice_size _ _ _ (by rw [S.length]; omega)]; exact hfr
          · rw [splice_size _ _ _ (by rw [S.length]; omega)]; exact hcs
          · rw [Nat.add_mul, ← S.length, Nat.add_zero, take_drop_splice _ _ _ _ (by rw [S.length]; omega), hx]
        have hrd : (Rd inf.size (.slice (some ⟨b, o, none⟩) N cap) N xs).P (restr D (hmOf w')) := by
          refine ⟨hxl, _, cap, rfl, by omega, hcm, .inr ⟨b, o, splice cur (o + N * inf.size + 0) news, e, fr, rfl, ?_, ?_⟩⟩
          · show restr D (hmOf w') b = _
            simp only [restr, hD, if_true]
            exact g4
          · have hts := congrArg (List.take (N * inf.size)) (take_drop_splice cur o (N * inf.size) news (by rw [S.length]; omega))
            rw [List.take_take, Nat.min_eq_left (by omega), hx, List.take_left' hxl] at hts
            rw [Nat.add_zero]; exact hts
        exact ⟨⟨g1.trans e1, g2.trans e2, g3.trans e3, sepL_set hil ⟨D, hown, hrest⟩⟩, ⟨g1.trans e1, g2.trans e2, g3.trans e3, sepL_set hil ⟨D, hrd, hrest⟩⟩⟩
    · exact grow _ cap rfl (by omega)

theorem op_append (h : St n s a w E L) {t t2 el : TypeId} {x y : Operand} {size bytes N m : Nat} {z v vx : Value} {xs news : List Value} (hx : ev E x = some v) (hy : ev E y = some vx) (hu : P.underlying t = some (.slice el)) (hs : tsz P el = some (size, bytes)) (hz : tzero P el = some z)
    (hzs : z.cells.size = size) (hby : Nat.ble bytes 4096 = true) (i : Nat) (hi : L[i]? = some (Own size v N xs)) (S : Src P L size t2 vx m news) (h1 : ∀ u ∈ news, u.oneCell' = true) (hN : N + m ≤ 4294967296)
    (hd : Nat.blt d n = true) (k : ∀ v' a w, St n s a w ((d, v') :: E) (L.set i (Own size v' (N + m) (xs ++ news))) → next a w) :
    (Oper.mk (some d) (.call { callee := .builtin .append, args := #[x, y], argTypes := #[t, t2] }) ty pos aft g).wp P a w next Q := by
  obtain ⟨v', w', hr, hw', _⟩ := run_append_gen (P := P) (ty := ty) hu hs hz hzs hby S h1 hN i hi h.2
  refine op_run h (v := v') (w' := w') ?_ hd hw' (k v')
  simp [execOp, resolve, invoke, builtin, h.1.ev hx, h.1.ev hy, hr]

/-- the same, where what the old slice reads is still wanted -/
theorem op_appendR (h : St n s a w E L) {t t2 el : TypeId} {x y : Operand} {size bytes N m : Nat} {z v vx : Value} {xs news : List Value} (hx : ev E x = some v) (hy : ev E y = some vx) (hu : P.underlying t = some (.slice el)) (hs : tsz P el = some (size, bytes)) (hz : tzero P el = some z)
    (hzs : z.cells.size = size) (hby : Nat.ble bytes 4096 = true) (i : Nat) (hi : L[i]? = some (Own size v N xs)) (S : Src P L size t2 vx m news) (h1 : ∀ u ∈ news, u.oneCell' = true) (hN : N + m ≤ 4294967296)
    (hd : Nat.blt d n = true) (k : ∀ v' a w, Sat s w (L.set i (Rd size v N xs)) → St n s a w ((d, v') :: E) (L.set i (Own size v' (N + m) (xs ++ news))) → next a w) :
    (Oper.mk (some d) (.call { callee := .builtin .append, args := #[x, y], argTypes := #[t, t2] }) ty pos aft g).wp P a w next Q := by
  obtain ⟨v', w', hr, hw', hrd⟩ := run_append_gen (P := P) (ty := ty) hu hs hz hzs hby S h1 hN i hi h.2
  have he : (execOp a.eval (Oper.mk (some d) (.call { callee := .builtin .append, args := #[x, y], argTypes := #[t, t2] }) ty pos aft g)).run P w = .ok (.value v') w' := by
    simp [execOp, resolve, invoke, builtin, h.1.ev hx, h.1.ev hy, hr]
  unfold Oper.wp
  rw [he]
  exact k v' _ _ hrd ⟨h.1.put hd v', hw'⟩

/-- append to a slice that is told to be nil: a new slice of the call's own -/
theorem op_appendNil (h : St n s a w E L) {t t2 el : TypeId} {x y : Operand} {size bytes m : Nat} {z vx : Value} {news : List Value} (hx : ev E x = some (.slice none 0 0)) (hy : ev E y = some vx) (hu : P.underlying t = some (.slice el)) (hs : tsz P el = some (size, bytes)) (hz : tzero P el = some z)
    (hzs : z.cells.size = size) (hby : Nat.ble bytes 4096 = true) (S : Src P L size t2 vx m news) (h1 : ∀ u ∈ news, u.oneCell' = true) (hN : m ≤ 4294967296)
    (hd : Nat.blt d n = true) (k : ∀ v' a w, St n s a w ((d, v') :: E) (Own size v' m news :: L) → next a w) :
    (Oper.mk (some d) (.call { callee := .builtin .append, args := #[x, y], argTypes := #[t, t2] }) ty pos aft g).wp P a w next Q := by
  have h0 : Sat s w (Own size (.slice none 0 0) 0 [] :: L) :=
    ⟨h.2.1, h.2.2.1, h.2.2.2.1, fun _ => false, ⟨by simp, .inl ⟨rfl, rfl⟩⟩, sepL_mono L (fun b o hb => by simpa [restr] using hb) h.2.2.2.2⟩
  have S' : Src P (Own size (.slice none 0 0) 0 [] :: L) size t2 vx m news := ⟨S.len, fun s w hh => S.cells s w hh.tail, S.length, S.type⟩
  obtain ⟨v', w', hr, hw', _⟩ := run_append_gen (P := P) (ty := ty) (N := 0) hu hs hz hzs hby S' h1 (by omega) 0 rfl h0
  simp only [List.set_cons_zero, Nat.zero_add, List.nil_append] at hw'
  refine op_run h (v := v') (w' := w') ?_ hd hw' (k v')
  simp [execOp, resolve, invoke, builtin, h.1.ev hx, h.1.ev hy, hr]

end
end Go.Sl

/- A small library for walks, part G: calls, returns and new blocks. No statement is proved here. -/
namespace Go.Sl

/-! ### Calls and returns -/
/-- what a contract says of a call's end: it returns r x, in a world that bears L x, for some x with φ x -/
def Ret {X : Type} (s : World) (r : X → Value) (L : X → List HItem) (φ : X → Prop) : Ending → World → Prop := fun e w => ∃ x, e = .returned (r x) ∧ Sat s w (L x) ∧ φ x

def isGo (P : Program) (f : FuncId) : Bool := match P.funcs[f]? with
  | some fn => !(fn.name == "runtime.NumGoroutine") && fn.body.isSome
  | none => false

theorem run_callFunc_go {P : Program} {f : FuncId} (h : isGo P f = true) (args : Array Value) (w : World) : (callFunc f args).run P w = .ok (.enter f args) w := by
  unfold isGo at h
  split at h
  · rename_i fn hf
    simp only [Bool.and_eq_true, Bool.not_eq_true'] at h
    obtain ⟨h1, h2⟩ := h
    obtain ⟨c, hc⟩ := Option.isSome_iff_exists.1 h2
    have h1' : ¬ fn.name = "runtime.NumGoroutine" := by simpa using h1
    simp [callFunc, hf, h1', hc]
  · cases h

def evs (E : List (Nat × Value)) : List Operand → Option (List Value)
  | [] => some []
  | x :: xs => match ev E x, evs E xs with
    | some v, some vs => some (v :: vs)
    | _, _ => none

theorem Env.evs {n : Nat} {a : Act} {E : List (Nat × Value)} (h : Env n a E) : ∀ {xs : List Operand} {vs : List Value}, evs E xs = some vs → xs.map a.eval = vs
  | [], vs, e => by simp [Sl.evs] at e; simp [e]
  | x :: xs, vs, e => by
    simp only [Sl.evs] at e
    split at e
    · rename_i v us h1 h2
      simp at e
      subst e
      simp [h.ev h1, Env.evs h h2]
    · cases e

section
variable {P : Program} {n : Nat} {s w : World} {a : Act} {E : List (Nat × Value)} {L : List HItem} {Q : Exit → Act → World → Prop} {next : Act → World → Prop}
variable {d : Nat} {dst : Option Nat} {ty : TypeId} {pos : String} {aft : Array Edge} {g : Option (Nat × Bool)}

theorem op_call (h : St n s a w E L) {f : FuncId} {xs : List Operand} {ats : Array TypeId} {vs : List Value} {X : Type} {r : X → Value} {L' : X → List HItem} {φ : X → Prop} (hx : evs E xs = some vs) (hf : isGo P f = true)
    (hc : Calls P f vs.toArray w (Ret s r L' φ)) (hd : Nat.blt d n = true) (k : ∀ x a w, φ x → St n s a w ((d, r x) :: E) (L' x) → next a w) :
    (Oper.mk (some d) (.call { callee := .value (.func f), args := xs.toArray, argTypes := ats }) ty pos aft g).wp P a w next Q := by
  have he : (execOp a.eval (Oper.mk (some d) (.call { callee := .value (.func f), args := xs.toArray, argTypes := ats }) ty pos aft g)).run P w = .ok (.enter f vs.toArray) w := by
    have : execOp a.eval (Oper.mk (some d) (.call { callee := .value (.func f), args := xs.toArray, argTypes := ats }) ty pos aft g) = callFunc f (#[] ++ xs.toArray.map a.eval ++ #[]) := rfl
    rw [this, run_callFunc_go hf]
    simp [h.1.evs hx]
  unfold Oper.wp
  rw [he]
  exact hc.mono fun e w' ⟨x, he, hs, hφ⟩ => by subst he; exact k x _ _ hφ ⟨h.1.put hd _, hs⟩

theorem op_call0 (h : St n s a w E L) {f : FuncId} {xs : List Operand} {ats : Array TypeId} {vs : List Value} {X : Type} {r : X → Value} {L' : X → List HItem} {φ : X → Prop} (hx : evs E xs = some vs) (hf : isGo P f = true)
    (hc : Calls P f vs.toArray w (Ret s r L' φ)) (k : ∀ x a w, φ x → St n s a w E (L' x) → next a w) :
    (Oper.mk none (.call { callee := .value (.func f), args := xs.toArray, argTypes := ats }) ty pos aft g).wp P a w next Q := by
  have he : (execOp a.eval (Oper.mk none (.call { callee := .value (.func f), args := xs.toArray, argTypes := ats }) ty pos aft g)).run P w = .ok (.enter f vs.toArray) w := by
    have : execOp a.eval (Oper.mk none (.call { callee := .value (.func f), args := xs.toArray, argTypes := ats }) ty pos aft g) = callFunc f (#[] ++ xs.toArray.map a.eval ++ #[]) := rfl
    rw [this, run_callFunc_go hf]
    simp [h.1.evs hx]
  unfold Oper.wp
  rw [he]
  exact hc.mono fun e w' ⟨x, he, hs, hφ⟩ => by subst he; exact k x _ _ hφ ⟨h.1, hs⟩

theorem r_extract (h : St n s a w E L) {x : Operand} {i : Nat} {vs : Array Value} {v : Value} (hx : ev E x = some (.tuple vs)) (hv : vs[i]? = some v) : (execOp a.eval ⟨dst, .extract x i, ty, pos, aft, g⟩).run P w = .ok (.value (v)) w := by simp [execOp, h.1.ev hx, Instr.extract, hv]

theorem ret0 {fn : Func} {R : Ending → World → Prop} (h : St n s a w E L) (hr : fn.results = #[]) (hR : R (.returned (.tuple #[])) w) : bodyPost P fn R .ret a w :=
  bodyPost_ret (results_none hr _ _ _) h.1.2.1 hR
theorem ret1 {fn : Func} {R : Ending → World → Prop} (h : St n s a w E L) {t : Nat} {v : Value} (hr : fn.results = #[.tmp t]) (hv : lk E t = some v) (hR : R (.returned v) w) : bodyPost P fn R .ret a w := by
  have := h.1.2.2 t v hv
  refine bodyPost_ret (results_tmp hr _ _ _) h.1.2.1 ?_
  simpa [Array.getD_eq_getD_getElem?, this] using hR
theorem ret2 {fn : Func} {R : Ending → World → Prop} (h : St n s a w E L) {t u : Nat} {v v2 : Value} (hr : fn.results = #[.tmp t, .tmp u]) (hv : lk E t = some v) (hv2 : lk E u = some v2) (hR : R (.returned (.tuple #[v, v2])) w) : bodyPost P fn R .ret a w := by
  have h1 := h.1.2.2 t v hv
  have h2 := h.1.2.2 u v2 hv2
  refine bodyPost_ret (results_tmp2 hr _ _ _) h.1.2.1 ?_
  simpa [Array.getD_eq_getD_getElem?, h1, h2] using hR
theorem ret3 {fn : Func} {R : Ending → World → Prop} (h : St n s a w E L) {t u q : Nat} {v v2 v3 : Value} (hr : fn.results = #[.tmp t, .tmp u, .tmp q]) (hv : lk E t = some v) (hv2 : lk E u = some v2) (hv3 : lk E q = some v3) (hR : R (.returned (.tuple #[v, v2, v3])) w) : bodyPost P fn R .ret a w := by
  have h1 := h.1.2.2 t v hv
  have h2 := h.1.2.2 u v2 hv2
  have h3 := h.1.2.2 q v3 hv3
  refine bodyPost_ret (v := .tuple #[v, v2, v3]) ?_ h.1.2.1 hR
  simp [results, hr, Array.getD_eq_getD_getElem?, h1, h2, h3]
theorem end0 {fn : Func} {R : Ending → World → Prop} (h : St n s a w E L) (hr : fn.results = #[]) (hR : R (.returned (.tuple #[])) w) : bodyPost P fn R .normal a w :=
  bodyPost_end (results_none hr _ _ _) h.1.2.1 hR

/-! ### New memory -/
theorem op_new (h : St n s a w E L) {op : Op} {o : Obj} {v : Value} (hr : (execOp a.eval ⟨some d, op, ty, pos, aft, g⟩).run P w = .ok (.value v) (w.alloc o)) (hd : Nat.blt d n = true)
    (k : ∀ a w', St n s a w' ((d, v) :: E) (Blk w.heap.size o :: L) → next a w') : (Oper.mk (some d) op ty pos aft g).wp P a w next Q :=
  op_run h hr hd (h.2.alloc o) k

theorem op_alloc (h : St n s a w E L) {t : TypeId} {z : Value} (hz : tzero P t = some z) (hd : Nat.blt d n = true)
    (k : ∀ b a w, St n s a w ((d, .pointer (some ⟨b, 0, none⟩)) :: E) (Blk b (.cells z.cells t) :: L) → next a w) : (Oper.mk (some d) (.alloc t) ty pos aft g).wp P a w next Q :=
  op_new h (o := .cells z.cells t) (v := .pointer (some ⟨w.heap.size, 0, none⟩)) (by simp [execOp, Instr.alloc, run_zeroValue hz, newVar, newRow]) hd (k _)
theorem op_box (h : St n s a w E L) {t : TypeId} {x : Operand} {v : Value} (hx : ev E x = some v) (hd : Nat.blt d n = true)
    (k : ∀ b a w, St n s a w ((d, .pointer (some ⟨b, 0, none⟩)) :: E) (Blk b (.cells v.cells t) :: L) → next a w) : (Oper.mk (some d) (.box t x) ty pos aft g).wp P a w next Q :=
  op_new h (o := .cells v.cells t) (v := .pointer (some ⟨w.heap.size, 0, none⟩)) (by simp [execOp, h.1.ev hx, Instr.box, newVar, newRow]) hd (k _)

def evp (E : List (Nat × Value)) : List (Nat × Operand) → Option (List (Nat × Value))
  | [] => some []
  | (i, x) :: xs => match ev E x, evp E xs with
    | some v, some vs => some ((i, v) :: vs)
    | _, _ => none
theorem Env.evp {n : Nat} {a : Act} {E : List (Nat × Value)} (h : Env n a E) : ∀ {xs : List (Nat × Operand)} {vs : List (Nat × Value)}, evp E xs = some vs → xs.map (fun p => (p.1, a.eval p.2)) = vs
  | [], vs, e => by simp [Sl.evp] at e; simp [e]
  | (i, x) :: xs, vs, e => by
    simp only [Sl.evp] at e
    split at e
    · rename_i v us h1 h2
      simp at e
      subst e
      simp [h.ev h1, Env.evp h h2]
    · cases e

theorem cells_zipIdx (off : Nat) : ∀ (vs : List Value) (k : Nat) (cs : Array Value), off + k + vs.length ≤ cs.size →
    ((vs.zipIdx k).foldl (fun cs (x : Value × Nat) => cs.setIfInBounds (off + x.2) x.1) cs).toList = cs.toList.take (off + k) ++ vs ++ cs.toList.drop (off + k + vs.length)
  | [], k, cs, h => by simp
  | v :: vs, k, cs, h => by
    simp only [List.length_cons] at h
    rw [List.zipIdx_cons, List.foldl_cons, cells_zipIdx off vs (k + 1) _ (by simp; omega)]
    have hj : off + k < cs.toList.length := by simp; omega
    simp only [Array.toList_setIfInBounds]
    rw [show off + (k + 1) = off + k + 1 by omega, List.take_set, List.take_succ_eq_append_getElem hj, List.set_append_right _ _ (by simp; omega)]
    have e : off + k - (cs.toList.take (off + k)).length = 0 := by simp; omega
    rw [e, List.drop_set_of_lt (by omega)]
    simp [Nat.add_assoc, Nat.add_comm 1]

/-- a row of values, each of as many cells, in their places -/
theorem fill_row (size : Nat) : ∀ (vs : List Value) (k : Nat) (cs : Array Value), (∀ v ∈ vs, v.cells.size = size) → (k + vs.length) * size ≤ cs.size →
    Instr.fill (fun i => some (i * size, size)) cs ((List.range' k vs.length).zip vs) = some (cs.toList.take (k * size) ++ vs.flatMap (fun v => v.cells.toList) ++ cs.toList.drop ((k + vs.length) * size)).toArray
  | [], k, cs, _, _ => by simp [Instr.fill]
  | v :: vs, k, cs, h, hl => by
    have hv := h v (by simp)
    simp only [List.length_cons] at hl
    have hle : (k + 1) * size ≤ cs.size := Nat.le_trans (Nat.mul_le_mul_right _ (by omega)) hl
    rw [Nat.add_mul, Nat.one_mul] at hle
    rw [List.length_cons, List.range'_succ, List.zip_cons_cons, Instr.fill]
    simp only [hv]
    rw [if_neg (by simp; omega)]
    have hf : v.cells.zipIdx.foldl (fun cs (x : Value × Nat) => cs.setIfInBounds (k * size + x.2) x.1) cs = (cs.toList.take (k * size) ++ v.cells.toList ++ cs.toList.drop (k * size + size)).toArray := by
      apply Array.ext'
      have := cells_zipIdx (k * size) v.cells.toList 0 cs (by simp [hv]; omega)
      simp only [Nat.add_zero, Array.length_toList, hv] at this
      rw [← this, ← Array.foldl_toList, Array.toList_zipIdx]
    have hsz : (cs.toList.take (k * size) ++ v.cells.toList ++ cs.toList.drop (k * size + size)).toArray.size = cs.size := by simp [hv]; omega
    refine (congrArg (fun q => Instr.fill _ q _) hf).trans ?_
    rw [fill_row size vs (k + 1) _ (fun u hu => h u (by simp [hu])) (by rw [hsz]; rw [show k + 1 + vs.length = k + (vs.length + 1) by omega]; exact hl)]
    congr 2
    have h1 : ((cs.toList.take (k * size) ++ v.cells.toList ++ cs.toList.drop (k * size + size))).take ((k + 1) * size) = cs.toList.take (k * size) ++ v.cells.toList := by
      apply List.take_left'
      simp [hv, Nat.add_mul]; omega
    have h2 : ((cs.toList.take (k * size) ++ v.cells.toList ++ cs.toList.drop (k * size + size))).drop ((k + 1 + vs.length) * size) = cs.toList.drop ((k + (vs.length + 1)) * size) := by
      have hl2 : (cs.toList.take (k * size) ++ v.cells.toList).length = k * size + size := by simp [hv]; omega
      rw [List.drop_append, hl2, List.drop_eq_nil_of_le (by rw [hl2, show k + 1 + vs.length = k + 1 + vs.length from rfl, Nat.add_mul, Nat.add_mul]; omega), List.nil_append, List.drop_drop]
      congr 1
      rw [show k + 1 + vs.length = k + (vs.length + 1) by omega, Nat.add_mul, Nat.add_mul]
      omega
    simp only [h1, h2, List.flatMap_cons]
    simp only [List.append_assoc]

/-- a slice written out: its block -/
theorem op_buildSlice (h : St n s a w E L) {t el : TypeId} {len size by_ : Nat} {ps : List (Nat × Operand)} {vs : List Value} {z : Value} {cells : List Value} (hu : P.underlying t = some (.slice el)) (hs : tsz P el = some (size, by_)) (hz : tzero P el = some z)
    (hi : ps.map (fun p => p.1) = List.range' 0 len) (hx : evs E (ps.map fun p => p.2) = some vs) (hlen : Nat.ble (len * size) 16777216 = true) (hpos : Nat.beq (len * size) 0 = false) (hc : vs.flatMap (fun v => v.cells.toList) = cells) (hsz : ∀ v ∈ vs, v.cells.size = size)
    (hd : Nat.blt d n = true) (k : ∀ b a w, St n s a w ((d, .slice (some ⟨b, 0, none⟩) len len) :: E) (Blk b (.cells cells.toArray el) :: L) → next a w) :
    (Oper.mk (some d) (.buildSlice t len ps.toArray) ty pos aft g).wp P a w next Q := by
  refine op_new h (o := .cells cells.toArray el) (v := .slice (some ⟨w.heap.size, 0, none⟩) len len) ?_ hd (k _)
  have h1 : ¬ (16777216 < len * size) := by have := Nat.le_of_ble_eq_true hlen; omega
  have h2 : ¬ (len * size = 0) := Nat.ne_of_beq_eq_false hpos
  have hev := h.1.evs hx
  have hpl : ps.length = len := by have := congrArg List.length hi; simpa using this
  have hvl : vs.length = len := by rw [← hev]; simpa using hpl
  have h3 : (ps.toArray.map fun (i, x) => (i, a.eval x)).toList = (List.range' 0 vs.length).zip vs := by
    rw [hvl, ← hi, ← hev, List.map_map, List.zip_map']
    simp [Function.comp_def]
  have hfill := fill_row size vs 0 ((Array.range (len * size)).map (z.cells[· % z.cells.size]!)) hsz (by simp [hvl])
  simp only [Nat.zero_mul, List.take_zero, List.nil_append, Nat.zero_add] at hfill
  rw [List.drop_eq_nil_of_le (by simp [hvl]), List.append_nil, hc] at hfill
  simp only [execOp, Instr.buildSlice, Sem.run_bind, run_underlying hu, Result.andThen_ok, run_sizeOf hs, h3]
  rw [if_neg (by simpa using h1), if_neg (by simpa using h2)]
  simp [run_zeroValue hz, hfill, newRow]

/-! ### texts and bytes -/
theorem fold_push (l : List UInt8) : ∀ acc : List UInt8, List.foldl (fun (r : ByteArray) (n : Int) => r.push (UInt8.ofNat n.toNat)) ⟨⟨acc⟩⟩ (l.map fun x => (x.toNat : Int)) = ⟨⟨acc ++ l⟩⟩ := by
  induction l with
  | nil => intro acc; simp
  | cons x l ih =>
    intro acc
    simp only [List.map_cons, List.foldl_cons]
    have e : (⟨⟨acc⟩⟩ : ByteArray).push (UInt8.ofNat (x.toNat : Int).toNat) = ⟨⟨acc ++ [x]⟩⟩ := by
      apply ByteArray.ext; apply Array.ext'; simp [ByteArray.push]
    rw [e, ih]
    simp
theorem RDh.bytes {v : Value} {m : Nat} {l : List UInt8} (P : Program) {w : World} (r : RDh 1 v m (bs l) (hmOf w)) : (Conv.bytesToString v).run P w = .ok (.string ⟨⟨l⟩⟩) w := by
  have hc := r.cells P m (Nat.le_refl _)
  obtain ⟨h1, A, cap, rfl, h2, h3, h4⟩ := r
  have hm : m = l.length := by simpa [bs] using h1.symm
  subst hm
  cases A with
  | none =>
    rcases h4 with h4 | ⟨gg, o, cur, e, fr, hA, _⟩
    · have hl : l = [] := List.eq_nil_of_length_eq_zero h4
      subst hl
      simp [Conv.bytesToString]; rfl
    · cases hA
  | some A =>
    simp only [Builtin.firstCells] at hc
    have := run_bytesToString (P := P) w A l.length cap (l.map fun x => (x.toNat : Int)) (by
      rw [Nat.mul_one] at hc
      rw [hc]
      rw [List.take_of_length_le (by simp [bs])]
      have e : bs l = l.map fun x => Value.int .u8 (x.toNat : Int) := rfl
      rw [e]
      simp [Function.comp_def])
    rw [this]
    have e : ByteArray.empty = ⟨⟨[]⟩⟩ := rfl
    rw [e, fold_push l []]
    simp

theorem r_b2s (h : St n s a w E L) {t u el : TypeId} {x : Operand} {v : Value} {m : Nat} {l : List UInt8} (hx : ev E x = some v) (ht : P.underlying t = some (.slice el)) (he : P.underlying el = some (.int .u8)) (hu : P.underlying u = some .string)
    (hv : Views L 1 v m (bs l)) : (execOp a.eval ⟨dst, .convert t u x, ty, pos, aft, g⟩).run P w = .ok (.value (sv l)) w := by
  obtain ⟨A, cap, rfl, _⟩ := hv.shape h.2
  have hc : (convert t u (.slice A m cap)).run P w = (Conv.bytesToString (.slice A m cap)).run P w := by
    cases A <;> simp [convert, run_underlying ht, run_underlying hu, run_underlying he]
  simp [execOp, h.1.ev hx, hc, (hv _ h.2.2.2.2).bytes P (w := w)]
  rfl


/-- a text as a text of another name -/
theorem r_s2s (h : St n s a w E L) {t u : TypeId} {x : Operand} {b : ByteArray} (hx : ev E x = some (.string b)) (ht : P.underlying t = some .string) (hu : P.underlying u = some .string)
    : (execOp a.eval ⟨dst, .convert t u x, ty, pos, aft, g⟩).run P w = .ok (.value (.string b)) w := by simp [execOp, h.1.ev hx, convert, run_underlying ht, run_underlying hu]

theorem op_s2b (h : St n s a w E L) {t u el : TypeId} {x : Operand} {l : List UInt8} (hx : ev E x = some (.string ⟨⟨l⟩⟩)) (ht : P.underlying t = some .string) (hu : P.underlying u = some (.slice el)) (he : P.underlying el = some (.int .u8))
    (hl : l.length ≤ 4294967296) (hd : Nat.blt d n = true) (k : ∀ v a w, St n s a w ((d, v) :: E) (Own 1 v l.length (bs l) :: L) → next a w) : (Oper.mk (some d) (.convert t u x) ty pos aft g).wp P a w next Q := by
  have hsz : (⟨⟨l⟩⟩ : ByteArray).size = l.length := rfl
  have hrun := Lib.run_convert_string_bytes (P := P) w t u el ⟨⟨l⟩⟩ ht hu he
  rw [hsz] at hrun
  have hge := grownCap_ge w l.length 0 el
  have hcm := grownCap_le_maxLen w l.length 0 el (by simp [maxLen]; omega)
  have hcs : (Lib.bytesCells w el ⟨⟨l⟩⟩).size = grownCap w l.length 0 el := by simp [Lib.bytesCells, hsz]; omega
  refine op_run h (v := .slice (some ⟨w.heap.size, 0, none⟩) l.length (grownCap w l.length 0 el)) (w' := Lib.bytesWorld w el ⟨⟨l⟩⟩) (by simp [execOp, h.1.ev hx, hrun]) hd ?_ (k _)
  have hm : sepL (Blk w.heap.size (.cells (Lib.bytesCells w el ⟨⟨l⟩⟩) el ((Lib.bytesCells w el ⟨⟨l⟩⟩).size, (Lib.bytesCells w el ⟨⟨l⟩⟩).size + 1)) :: L) (hmOf (Lib.bytesWorld w el ⟨⟨l⟩⟩)) := by
    refine sepL_more (h := hmOf w) h.2.2.2.2 (by simp [hmOf]) (Lib.bytesWorld_at_new w el _) ?_
    intro j hj
    by_cases hlt : j < w.heap.size
    · exact Lib.bytesWorld_at_old w el _ j hlt
    · have h1 : (Lib.bytesWorld w el ⟨⟨l⟩⟩).heap.size = w.heap.size + 1 := Lib.bytesWorld_size w el _
      show (Lib.bytesWorld w el ⟨⟨l⟩⟩).heap[j]? = w.heap[j]?
      rw [Array.getElem?_eq_none (by omega), Array.getElem?_eq_none (by omega)]
  obtain ⟨D, hI, hL⟩ := hm
  refine ⟨h.2.1, h.2.2.1, h.2.2.2.1, D, ⟨by simp [bs], .inr ⟨_, 0, _, _, _, _, rfl, hI, ?_, hge, hcm, ?_, ?_⟩⟩, hL⟩
  · intro j hj; simp; omega
  · rw [hcs]; omega
  · simp only [List.drop_zero, Nat.mul_one, Lib.bytesCells, Array.toList_append, Array.toList_map]
    rw [List.take_left' (by simp)]
    simp [bs, bv]

end
end Go.Sl

/- A small library for walks, part H: guards and drawn regions. No statement is proved here. -/
namespace Go.Sl

/-- what operation j of a region has yielded, for the guards -/
def gv (ops : Array Oper) (E : List (Nat × Value)) (j : Nat) : Option Bool :=
  match ops[j]? with
  | some o => match o.dst with
    | some t => match lk E t with
      | some (.bool b) => some b
      | _ => none
    | none => none
  | none => none

theorem gv_yielded {n : Nat} {a : Act} {E : List (Nat × Value)} (h : Env n a E) {ops : Array Oper} {j : Nat} {b : Bool} (hg : gv ops E j = some b) : yielded ops a.tmps j = some b := by
  unfold gv at hg
  split at hg
  · rename_i o ho
    split at hg
    · rename_i t ht
      split at hg
      · rename_i b' hb
        cases hg
        have := h.2.2 t _ hb
        simp [yielded, ho, ht, this]
      · cases hg
    · cases hg
  · cases hg

/-- it hasn't yielded this -/
def gvNot (ops : Array Oper) (E : List (Nat × Value)) (j : Nat) (b : Bool) : Bool :=
  match ops[j]? with
  | some o => match o.dst with
    | some t => match lk E t with
      | some (.bool b') => b' != b
      | some _ => true
      | none => false
    | none => false
  | none => false

theorem gvNot_wanted {n : Nat} {a : Act} {E : List (Nat × Value)} (h : Env n a E) {ops : Array Oper} {j : Nat} {b : Bool} (hg : gvNot ops E j b = true) : (yielded ops a.tmps j == some b) = false := by
  unfold gvNot at hg
  split at hg
  · rename_i o ho
    split at hg
    · rename_i t ht
      split at hg
      · rename_i b' hb
        have := h.2.2 t _ hb
        simp only [yielded, ho, ht, Option.bind_some, this]
        cases b <;> cases b' <;> simp_all
      · rename_i v hv hb
        have h2 := h.2.2 t _ hb
        have : yielded ops a.tmps j = none := by
          simp only [yielded, ho, ht, Option.bind_some, h2]
          try simp only [Option.bind_some]
          split
          · rename_i e; simp_all
          · rfl
        rw [this]; rfl
      · cases hg
    · cases hg
  · cases hg

section
variable {P : Program} {n : Nat} {s w : World} {a : Act} {E : List (Nat × Value)} {L : List HItem} {Q : Exit → Act → World → Prop} {next : Act → World → Prop}
variable {d : Nat} {ty : TypeId} {pos : String} {aft : Array Edge} {ops : Array Oper} {rest : List Oper} {op : Op} {v : Value}

/-- one operation that leaves the world alone -/
theorem wv (h : St n s a w E L) (hr : (execOp a.eval (Oper.mk (some d) op ty pos aft none)).run P w = .ok (.value v) w) (hd : Nat.blt d n = true)
    (k : ∀ a w, St n s a w ((d, v) :: E) L → wpList P ops Q rest a w) : wpList P ops Q (Oper.mk (some d) op ty pos aft none :: rest) a w :=
  wl rfl (op_run h hr hd h.2 k)
/-- a guarded one that is wanted -/
theorem wlg {o : Oper} (h : St n s a w E L) {j : Nat} {b : Bool} (hg : o.guard = some (j, b)) (hj : gv ops E j = some b) (hh : o.wp P a w (wpList P ops Q rest) Q) : wpList P ops Q (o :: rest) a w := by
  unfold wpList
  rw [if_pos (by simp [Region.wanted, hg, gv_yielded h.1 hj])]
  exact .inl hh
theorem wvg (h : St n s a w E L) {j : Nat} {b : Bool} (hr : (execOp a.eval (Oper.mk (some d) op ty pos aft (some (j, b)))).run P w = .ok (.value v) w) (hj : gv ops E j = some b) (hd : Nat.blt d n = true)
    (k : ∀ a w, St n s a w ((d, v) :: E) L → wpList P ops Q rest a w) : wpList P ops Q (Oper.mk (some d) op ty pos aft (some (j, b)) :: rest) a w :=
  wlg h rfl hj (op_run h hr hd h.2 k)
/-- a guarded one that is passed by -/
theorem wvs (h : St n s a w E L) {j : Nat} {b : Bool} (hj : gvNot ops E j b = true) (hd : Nat.blt d n = true)
    (k : ∀ a w, St n s a w ((d, undef) :: E) L → wpList P ops Q rest a w) : wpList P ops Q (Oper.mk (some d) op ty pos aft (some (j, b)) :: rest) a w := by
  unfold wpList
  rw [if_neg (by simp only [Region.wanted]; rw [gvNot_wanted h.1 hj]; simp)]
  exact k _ _ ⟨h.1.put hd _, h.2⟩

/-! a region that draws its order, whose operations keep the items -/
variable {QQ : Act → Prop}
theorem qv (hE : Env n a E) (hr : ∀ w, Sat s w L → (execOp a.eval (Oper.mk (some d) op ty pos aft none)).run P w = .ok (.value v) w) (hd : Nat.blt d n = true)
    (k : ∀ a, Env n a ((d, v) :: E) → wpQuiet P ops (fun w => Sat s w L) QQ rest a) : wpQuiet P ops (fun w => Sat s w L) QQ (Oper.mk (some d) op ty pos aft none :: rest) a := by
  unfold wpQuiet
  rw [if_pos (by simp [Region.wanted])]
  refine ⟨v, fun w hw => ?_, k _ (hE.put hd v)⟩
  unfold Oper.quietAt
  rw [hr w hw]
  exact ⟨rfl, rfl⟩
theorem qvg (hE : Env n a E) {j : Nat} {b : Bool} (hr : ∀ w, Sat s w L → (execOp a.eval (Oper.mk (some d) op ty pos aft (some (j, b)))).run P w = .ok (.value v) w) (hj : gv ops E j = some b) (hd : Nat.blt d n = true)
    (k : ∀ a, Env n a ((d, v) :: E) → wpQuiet P ops (fun w => Sat s w L) QQ rest a) : wpQuiet P ops (fun w => Sat s w L) QQ (Oper.mk (some d) op ty pos aft (some (j, b)) :: rest) a := by
  unfold wpQuiet
  rw [if_pos (by simp [Region.wanted, gv_yielded hE hj])]
  refine ⟨v, fun w hw => ?_, k _ (hE.put hd v)⟩
  unfold Oper.quietAt
  rw [hr w hw]
  exact ⟨rfl, rfl⟩
theorem qvs (hE : Env n a E) {j : Nat} {b : Bool} (hj : gvNot ops E j b = true) (hd : Nat.blt d n = true)
    (k : ∀ a, Env n a ((d, undef) :: E) → wpQuiet P ops (fun w => Sat s w L) QQ rest a) : wpQuiet P ops (fun w => Sat s w L) QQ (Oper.mk (some d) op ty pos aft (some (j, b)) :: rest) a := by
  unfold wpQuiet
  rw [if_neg (by simp only [Region.wanted]; rw [gvNot_wanted hE hj]; simp)]
  exact k _ (hE.put hd _)
theorem q_call (hE : Env n a E) {f : FuncId} {xs : List Operand} {ats : Array TypeId} {vs : List Value} (hx : evs E xs = some vs) (hf : isGo P f = true)
    (hc : ∀ w, Sat s w L → Calls P f vs.toArray w (fun e w' => e = .returned v ∧ Sat s w' L)) (hd : Nat.blt d n = true)
    (k : ∀ a, Env n a ((d, v) :: E) → wpQuiet P ops (fun w => Sat s w L) QQ rest a) : wpQuiet P ops (fun w => Sat s w L) QQ (Oper.mk (some d) (.call { callee := .value (.func f), args := xs.toArray, argTypes := ats }) ty pos aft none :: rest) a := by
  unfold wpQuiet
  rw [if_pos (by simp [Region.wanted])]
  refine ⟨v, fun w hw => ?_, k _ (hE.put hd v)⟩
  have he : (execOp a.eval (Oper.mk (some d) (.call { callee := .value (.func f), args := xs.toArray, argTypes := ats }) ty pos aft none)).run P w = .ok (.enter f vs.toArray) w := by
    have : execOp a.eval (Oper.mk (some d) (.call { callee := .value (.func f), args := xs.toArray, argTypes := ats }) ty pos aft none) = callFunc f (#[] ++ xs.toArray.map a.eval ++ #[]) := rfl
    rw [this, run_callFunc_go hf]
    simp [hE.evs hx]
  unfold Oper.quietAt
  rw [he]
  exact ⟨rfl, hc w hw⟩
theorem q_callg (hE : Env n a E) {j : Nat} {b : Bool} {f : FuncId} {xs : List Operand} {ats : Array TypeId} {vs : List Value} (hx : evs E xs = some vs) (hf : isGo P f = true)
    (hc : ∀ w, Sat s w L → Calls P f vs.toArray w (fun e w' => e = .returned v ∧ Sat s w' L)) (hj : gv ops E j = some b) (hd : Nat.blt d n = true)
    (k : ∀ a, Env n a ((d, v) :: E) → wpQuiet P ops (fun w => Sat s w L) QQ rest a) : wpQuiet P ops (fun w => Sat s w L) QQ (Oper.mk (some d) (.call { callee := .value (.func f), args := xs.toArray, argTypes := ats }) ty pos aft (some (j, b)) :: rest) a := by
  unfold wpQuiet
  rw [if_pos (by simp [Region.wanted, gv_yielded hE hj])]
  refine ⟨v, fun w hw => ?_, k _ (hE.put hd v)⟩
  have he : (execOp a.eval (Oper.mk (some d) (.call { callee := .value (.func f), args := xs.toArray, argTypes := ats }) ty pos aft (some (j, b)))).run P w = .ok (.enter f vs.toArray) w := by
    have : execOp a.eval (Oper.mk (some d) (.call { callee := .value (.func f), args := xs.toArray, argTypes := ats }) ty pos aft (some (j, b))) = callFunc f (#[] ++ xs.toArray.map a.eval ++ #[]) := rfl
    rw [this, run_callFunc_go hf]
    simp [hE.evs hx]
  unfold Oper.quietAt
  rw [he]
  exact ⟨rfl, hc w hw⟩
theorem qnil (hE : Env n a E) (h : ∀ a w', St n s a w' E L → Q .normal a w') : wpQuiet P ops (fun w => Sat s w L) (fun a' => ∀ w', Sat s w' L → Q .normal a' w') [] a :=
  fun w' hw' => h a w' ⟨hE, hw'⟩
theorem c_draw {id : Nat} {l : List Oper} (hm : P.follows .mixedOrders = true) (hB : Region.lexB .any l.toArray = true) (h : St n s a w E L)
    (k : ∀ a, Env n a E → wpQuiet P l.toArray (fun w => Sat s w L) (fun a' => ∀ w', Sat s w' L → Q .normal a' w') l a) : (Code.region id l.toArray true).wp P Q a w :=
  wp_region_quiet (C := fun w => Sat s w L) hm hB (h.2.congr rfl rfl rfl rfl) (by simpa using k a h.1)

/-- a contract whose answer is one value, and that keeps the items, as a drawn region wants it -/
theorem Ret.keeps {X : Type} {r : X → Value} {L' : X → List HItem} {φ : X → Prop} {f : FuncId} {args : Array Value} (hc : Calls P f args w (Ret s r L' φ)) (hr : ∀ x, φ x → r x = v) (hL : ∀ x w', Sat s w' (L' x) → Sat s w' L) :
    Calls P f args w (fun e w' => e = .returned v ∧ Sat s w' L) :=
  hc.mono fun e w' ⟨x, he, hs, hφ⟩ => ⟨by rw [he, hr x hφ], hL x w' hs⟩
theorem Ret.gives {X : Type} {r : X → Value} {L' : X → List HItem} {φ : X → Prop} {f : FuncId} {args : Array Value} {Y : Type} {r' : Y → Value} {M : Y → List HItem} {ψ : Y → Prop} (hc : Calls P f args w (Ret s r L' φ))
    (hy : ∀ x, φ x → ∃ y, r x = r' y ∧ ψ y ∧ ∀ w', Sat s w' (L' x) → Sat s w' (M y)) : Calls P f args w (Ret s r' M ψ) :=
  hc.mono fun e w' ⟨x, he, hs, hφ⟩ => let ⟨y, h1, h2, h3⟩ := hy x hφ; ⟨y, by rw [he, h1], h3 _ hs, h2⟩

/-! exits -/
theorem e_then {K : Act → World → Prop} {i : Nat} (h : Q (.exit i) a w) : Exit.then K Q (.exit i) a w := h
theorem e_here {i : Nat} (h : Q .normal a w) : Exit.inBlock i Q (.exit i) a w := by simpa [Exit.inBlock] using h
theorem e_up {i j : Nat} (hne : Nat.beq j i = false) (h : Q (.exit j) a w) : Exit.inBlock i Q (.exit j) a w := by
  have : j ≠ i := Nat.ne_of_beq_eq_false hne
  simpa [Exit.inBlock, this] using h
theorem b_normal {i : Nat} (h : Q .normal a w) : Exit.inBlock i Q .normal a w := h
/-- where ways meet again: a state that tells all -/
theorem c_meet (_h : St n s a w E L) {X : Type} {x y : Code} (E' : X → List (Nat × Value)) (L' : X → List HItem) (φ : X → Prop)
    (hx : x.wp P (Exit.then (fun a w => ∃ z, St n s a w (E' z) (L' z) ∧ φ z) Q) a w) (hy : ∀ z a w, φ z → St n s a w (E' z) (L' z) → y.wp P Q a w) : (Code.seq x y).wp P Q a w := by
  refine wp_seq (wp_mono hx ?_)
  intro e a' w' hq
  cases e <;> first | exact hq | (obtain ⟨z, hS, hz⟩ := hq; exact hy z _ _ hz hS)
end
end Go.Sl

/- A small library for walks, part I: conversions, fields and parts of slices. No statement is proved here. -/
namespace Go.Sl

/-! ### Numbers of one kind as numbers of another one -/
namespace C
variable {n : Int} {a : UInt8} {b : UInt16} {c : UInt32} {x : UInt64}
theorem u8_i64 : Value.int .u8 (IntKind.u8.wrap n) = bv (UInt8.ofInt n) := by rw [B.wrap_u8]; rfl
theorem u8_u8 : Value.int .u8 (IntKind.u8.wrap (a.toNat : Int)) = bv a := by rw [B.back_u8]; rfl
theorem u8_u16 : Value.int .u8 (IntKind.u8.wrap (b.toNat : Int)) = bv b.toUInt8 := by
  rw [B.wrap_u8]; congr 2; simp [UInt8.ofInt, UInt8.toNat_ofNat']; try omega
theorem u8_u32 : Value.int .u8 (IntKind.u8.wrap (c.toNat : Int)) = bv c.toUInt8 := by
  rw [B.wrap_u8]; congr 2; simp [UInt8.ofInt, UInt8.toNat_ofNat']; try omega
theorem u8_u64 : Value.int .u8 (IntKind.u8.wrap (x.toNat : Int)) = bv x.toUInt8 := by
  rw [B.wrap_u8]; congr 2; simp [UInt8.ofInt, UInt8.toNat_ofNat']; try omega
theorem u16_i64 : Value.int .u16 (IntKind.u16.wrap n) = w16 (UInt16.ofInt n) := by rw [B.wrap_u16]; rfl
theorem u32_i64 : Value.int .u32 (IntKind.u32.wrap n) = w32 (UInt32.ofInt n) := by rw [B.wrap_u32]; rfl
theorem u32_u32 : Value.int .u32 (IntKind.u32.wrap (c.toNat : Int)) = w32 c := by rw [B.back_u32]; rfl
theorem u32_u8 : Value.int .u32 (IntKind.u32.wrap (a.toNat : Int)) = w32 a.toUInt32 := by
  have h := B.back_u32 a.toUInt32
  simp only [UInt8.toNat_toUInt32] at h
  rw [h]; simp [w32]
theorem u64_i64 : Value.int .u64 (IntKind.u64.wrap n) = w64 (UInt64.ofInt n) := by rw [B.wrap_u64]; rfl
theorem u64_u64 : Value.int .u64 (IntKind.u64.wrap (x.toNat : Int)) = w64 x := by rw [B.back_u64]; rfl
theorem u64_u8 : Value.int .u64 (IntKind.u64.wrap (a.toNat : Int)) = w64 a.toUInt64 := by
  have h := B.back_u64 a.toUInt64
  simp only [UInt8.toNat_toUInt64] at h
  rw [h]; simp [w64]
theorem i64_u8 : Value.int .i64 (IntKind.i64.wrap (a.toNat : Int)) = .int .i64 (a.toNat : Int) := by
  have := a.toNat_lt; rw [wrap_i64 _ (by omega) (by omega)]
theorem i64_u16 : Value.int .i64 (IntKind.i64.wrap (b.toNat : Int)) = .int .i64 (b.toNat : Int) := by
  have := b.toNat_lt; rw [wrap_i64 _ (by omega) (by omega)]
theorem i64_u32 : Value.int .i64 (IntKind.i64.wrap (c.toNat : Int)) = .int .i64 (c.toNat : Int) := by
  have := c.toNat_lt; rw [wrap_i64 _ (by omega) (by omega)]
theorem i64_u64 (h : x.toNat < 9223372036854775808) : Value.int .i64 (IntKind.i64.wrap (x.toNat : Int)) = .int .i64 (x.toNat : Int) := by
  rw [wrap_i64 _ (by omega) (by omega)]
theorem i64_i64 (h1 : -9223372036854775808 ≤ n) (h2 : n ≤ 9223372036854775807) : Value.int .i64 (IntKind.i64.wrap n) = .int .i64 n := by rw [wrap_i64 _ h1 h2]
theorem i64_i8 (h1 : -9223372036854775808 ≤ n) (h2 : n ≤ 9223372036854775807) : Value.int .i64 (IntKind.i64.wrap n) = .int .i64 n := by rw [wrap_i64 _ h1 h2]
end C

theorem B.or_i64 {m k : Nat} (hm : m < 9223372036854775808) (hk : k < 9223372036854775808) : BinR .or .i64 (m : Int) .i64 (k : Int) (.int .i64 ((m ||| k : Nat) : Int)) := by
  intro P t w
  have e : ∀ j : Nat, j < 9223372036854775808 → BitVec.ofInt IntKind.i64.bits (j : Int) = BitVec.ofNat 64 j := by
    intro j hj; apply BitVec.eq_of_toNat_eq; simp [IntKind.bits]
  have h1 : m ||| k < 9223372036854775808 := Nat.or_lt_two_pow (n := 63) hm hk
  have h2 : (BitVec.ofNat 64 m ||| BitVec.ofNat 64 k).toNat = m ||| k := by
    rw [BitVec.toNat_or, BitVec.toNat_ofNat, BitVec.toNat_ofNat, Nat.mod_eq_of_lt (by omega), Nat.mod_eq_of_lt (by omega)]
  have h3 : IntKind.i64.wrap ((m ||| k : Nat) : Int) = ((m ||| k : Nat) : Int) := wrap_i64 _ (by omega) (by omega)
  simp only [binOp, Op.intBits, ne_eq, not_true_eq_false, if_false]
  rw [e m hm, e k hk]
  show Result.ok (Value.int .i64 (IntKind.i64.wrap ((BitVec.ofNat 64 m ||| BitVec.ofNat 64 k).toNat : Int))) w = _
  rw [h2, h3]

section
variable {P : Program} {n : Nat} {s w : World} {a : Act} {E : List (Nat × Value)} {L : List HItem} {Q : Exit → Act → World → Prop} {next : Act → World → Prop}
variable {d : Nat} {dst : Option Nat} {ty : TypeId} {pos : String} {aft : Array Edge} {g : Option (Nat × Bool)}

/-! ### min, max -/
theorem r_max2 (h : St n s a w E L) {x y : Operand} {p q : Int} {k : IntKind} {ats : Array TypeId} (hx : ev E x = some (.int k p)) (hy : ev E y = some (.int k q)) :
    (execOp a.eval ⟨dst, .call { callee := .builtin .max, args := #[x, y], argTypes := ats }, ty, pos, aft, g⟩).run P w = .ok (.value (.int k (max p q))) w := by
  have e : (if q > p then q else p) = max p q := by rw [Int.max_def]; split <;> split <;> omega
  simp [execOp, resolve, invoke, builtin, h.1.ev hx, h.1.ev hy, Builtin.max_, Builtin.max2, e]
theorem r_min2 (h : St n s a w E L) {x y : Operand} {p q : Int} {k : IntKind} {ats : Array TypeId} (hx : ev E x = some (.int k p)) (hy : ev E y = some (.int k q)) :
    (execOp a.eval ⟨dst, .call { callee := .builtin .min, args := #[x, y], argTypes := ats }, ty, pos, aft, g⟩).run P w = .ok (.value (.int k (min p q))) w := by
  have e : (if q < p then q else p) = min p q := by rw [Int.min_def]; split <;> split <;> omega
  simp [execOp, resolve, invoke, builtin, h.1.ev hx, h.1.ev hy, Builtin.min_, Builtin.min2, e]

/-! ### indices of texts and arrays -/
theorem r_indexT (h : St n s a w E L) {t : TypeId} {x ix : Operand} {l : List UInt8} {k1 : IntKind} {c : Int} (hx : ev E x = some (.string ⟨⟨l⟩⟩)) (hi : ev E ix = some (.int k1 c)) (hu : P.underlying t = some .string) (j : Nat) (hj : c = (j : Int)) {u : UInt8} (hu' : l[j]? = some u) :
    (execOp a.eval ⟨dst, .index t x ix, ty, pos, aft, g⟩).run P w = .ok (.value (bv u)) w := by
  subst hj
  have hb : (⟨⟨l⟩⟩ : ByteArray)[j]? = some u := by
    have hlt : j < l.length := (List.getElem?_eq_some_iff.1 hu').1
    have : l[j] = u := (List.getElem?_eq_some_iff.1 hu').2
    have hs : j < (⟨⟨l⟩⟩ : ByteArray).size := hlt
    rw [getElem?_pos (⟨⟨l⟩⟩ : ByteArray) j hs]
    exact congrArg some this
  have h0 : (0 : Int) ≤ (j : Int) := by omega
  simp [execOp, h.1.ev hx, h.1.ev hi, Instr.index, asIntOf, run_underlying hu, hb, bv]

theorem r_indexA (h : St n s a w E L) {t el : TypeId} {x ix : Operand} {cs : Array Value} {N by_ : Nat} {k1 : IntKind} {c : Int} {dd : TypeDesc} (hx : ev E x = some (.agg cs)) (hi : ev E ix = some (.int k1 c)) (hu : P.underlying t = some (.array N el)) (he : P.underlying el = some dd) (hs : tsz P el = some (1, by_))
    (hf : TypeDesc.flat dd = true) (j : Nat) (hj : c = (j : Int)) (hlt : j < N) {u : Value} (hu' : cs[j]? = some u) :
    (execOp a.eval ⟨dst, .index t x ix, ty, pos, aft, g⟩).run P w = .ok (.value u) w := by
  subst hj
  simp [execOp, h.1.ev hx, h.1.ev hi, Instr.index, asIntOf, run_underlying hu, hlt, run_sizeOf hs, part, run_isAgg he, hf, hu']

/-- the address of an element of an array that lies in a block -/
theorem r_indexAddrA (h : St n s a w E L) {t el : TypeId} {x ix : Operand} {b o : Nat} {N size by_ : Nat} {k1 : IntKind} {c : Int} (hx : ev E x = some (.pointer (some ⟨b, o, none⟩))) (hi : ev E ix = some (.int k1 c)) (hu : P.underlying t = some (.array N el)) (hs : tsz P el = some (size, by_))
    (j : Nat) (hj : c = (j : Int)) (hlt : j < N) : (execOp a.eval ⟨dst, .indexAddr t x ix, ty, pos, aft, g⟩).run P w = .ok (.value (.pointer (some ⟨b, o + j * size, none⟩))) w := by
  subst hj
  simp [execOp, h.1.ev hx, h.1.ev hi, Instr.indexAt, asIntOf, Instr.sureAddr, run_underlying hu, hlt, run_sizeOf hs, Addr.add_none]

/-! ### structs and arrays written out; their parts -/
theorem r_field (h : St n s a w E L) {t : TypeId} {x : Operand} {i by_ : Nat} {cs : Array Value} {fs : Array Field} {f : Field} {dd : TypeDesc} (hx : ev E x = some (.agg cs)) (hu : P.underlying t = some (.struct fs)) (hf : fs[i]? = some f) (he : P.underlying f.type = some dd)
    (hs : tsz P f.type = some (1, by_)) (hfl : TypeDesc.flat dd = true) {u : Value} (hv : cs[f.offset]? = some u) : (execOp a.eval ⟨dst, .field t x i, ty, pos, aft, g⟩).run P w = .ok (.value u) w := by
  simp [execOp, h.1.ev hx, Instr.field, run_underlying hu, hf, asAgg, part, run_isAgg he, hfl, hv]
theorem r_fieldAgg (h : St n s a w E L) {t : TypeId} {x : Operand} {i by_ sz : Nat} {cs : Array Value} {fs : Array Field} {f : Field} {dd : TypeDesc} (hx : ev E x = some (.agg cs)) (hu : P.underlying t = some (.struct fs)) (hf : fs[i]? = some f) (he : P.underlying f.type = some dd)
    (hs : tsz P f.type = some (sz, by_)) (hfl : TypeDesc.flat dd = false) {us : Array Value} (hv : cs.extract f.offset (f.offset + sz) = us) : (execOp a.eval ⟨dst, .field t x i, ty, pos, aft, g⟩).run P w = .ok (.value (.agg us)) w := by
  simp [execOp, h.1.ev hx, Instr.field, run_underlying hu, hf, asAgg, part, run_isAgg he, hfl, run_sizeOf hs, hv]

/-! ### slices of texts and of slices -/
def Bnd (E : List (Nat × Value)) (o : Option Operand) (dflt k : Nat) : Prop := match o with
  | none => k = dflt
  | some x => ∃ kk, ev E x = some (.int kk (k : Int))

theorem run_bounds (h : Env n a E) {lo hi : Option Operand} {isS : Bool} {len cap l k : Nat} (hl : Bnd E lo 0 l) (hh : Bnd E hi len k) (h1 : l ≤ k) (h2 : k ≤ cap) (w : World) :
    (Instr.sliceBounds isS len cap (lo.map a.eval) (hi.map a.eval) none).run P w = .ok (l, k, cap) w := by
  cases lo with
  | none =>
    cases hi with
    | none => simp only [Bnd] at hl hh; subst hl; subst hh; simp [Instr.sliceBounds]
    | some y =>
      obtain ⟨kk, hy⟩ := hh
      simp only [Bnd] at hl; subst hl
      simp [Instr.sliceBounds, h.ev hy, Instr.sliceBound, asIntOf, h2]
  | some x =>
    obtain ⟨kx, hx⟩ := hl
    cases hi with
    | none => simp only [Bnd] at hh; subst hh; simp [Instr.sliceBounds, h.ev hx, Instr.sliceBound, asIntOf, h1]
    | some y =>
      obtain ⟨kk, hy⟩ := hh
      simp [Instr.sliceBounds, h.ev hx, h.ev hy, Instr.sliceBound, asIntOf, h1, h2]

theorem r_sliceT (h : St n s a w E L) {t : TypeId} {x : Operand} {lo hi : Option Operand} {l : List UInt8} (hx : ev E x = some (.string ⟨⟨l⟩⟩)) (hu : P.underlying t = some .string) (i j : Nat) (hl : Bnd E lo 0 i) (hh : Bnd E hi l.length j) (h1 : i ≤ j) (h2 : j ≤ l.length) :
    (execOp a.eval ⟨dst, .slice t x lo hi none, ty, pos, aft, g⟩).run P w = .ok (.value (sv ((l.drop i).take (j - i)))) w := by
  have hsz : (⟨⟨l⟩⟩ : ByteArray).size = l.length := rfl
  have hb := run_bounds (P := P) (isS := false) (cap := l.length) h.1 hl hh h1 h2 w
  have he : (⟨⟨l⟩⟩ : ByteArray).extract i j = ⟨⟨(l.drop i).take (j - i)⟩⟩ := Lib.extract_eq _ _ _
  simp [execOp, h.1.ev hx, Instr.sliceAt, run_underlying hu, Instr.slice, hsz, hb, he, sv]

/-- the value that a slice of a slice is -/
def subV (size : Nat) (v : Value) (i j : Nat) : Value := match v with
  | .slice A _ cap => .slice (if cap = i then A else A.map (·.add (i * size))) (j - i) (cap - i)
  | v => v

theorem RDh.sub {size : Nat} {v : Value} {N : Nat} {xs : List Value} {h : HM} (r : RDh size v N xs h) {i j : Nat} (h1 : i ≤ j) (h2 : j ≤ N) : RDh size (subV size v i j) (j - i) ((xs.drop (i * size)).take ((j - i) * size)) h := by
  obtain ⟨e1, A, cap, rfl, e2, e3, e4⟩ := r
  have hlen : ((xs.drop (i * size)).take ((j - i) * size)).length = (j - i) * size := by
    rw [List.length_take, List.length_drop, e1, Nat.min_eq_left]
    rw [← Nat.mul_sub_right_distrib]
    exact Nat.mul_le_mul_right _ (by omega)
  refine ⟨hlen, _, _, rfl, by omega, by omega, ?_⟩
  by_cases hji : j = i
  · exact .inl (by omega)
  · rcases e4 with e4 | ⟨gg, o, cur, e, fr, rfl, e5, e6⟩
    · omega
    · refine .inr ⟨gg, o + i * size, cur, e, fr, ?_, e5, ?_⟩
      · rw [if_neg (by omega)]; simp [Addr.add_none]
      · rw [← e6, List.drop_take, List.drop_drop, List.take_take, Nat.min_eq_left]
        rw [← Nat.mul_sub_right_distrib]
        exact Nat.mul_le_mul_right _ (by omega)

theorem Views.sub {size : Nat} {v : Value} {N : Nat} {xs : List Value} (hv : Views L size v N xs) {i j : Nat} (h1 : i ≤ j) (h2 : j ≤ N) : Views L size (subV size v i j) (j - i) ((xs.drop (i * size)).take ((j - i) * size)) :=
  fun h hs => (hv h hs).sub h1 h2

theorem r_sliceV (h : St n s a w E L) {t el : TypeId} {x : Operand} {lo hi : Option Operand} {v : Value} {N size by_ : Nat} {xs : List Value} (hx : ev E x = some v) (hu : P.underlying t = some (.slice el)) (hs : tsz P el = some (size, by_)) (hv : Views L size v N xs)
    (i j : Nat) (hl : Bnd E lo 0 i) (hh : Bnd E hi N j) (h1 : i ≤ j) (h2 : j ≤ N) :
    (execOp a.eval ⟨dst, .slice t x lo hi none, ty, pos, aft, g⟩).run P w = .ok (.value (subV size v i j)) w := by
  obtain ⟨A, cap, rfl, hc, hcm⟩ := hv.shape h.2
  have hb := run_bounds (P := P) (isS := true) (cap := cap) h.1 hl hh h1 (by omega) w
  simp [execOp, h.1.ev hx, Instr.sliceAt, run_underlying hu, Instr.slice, hb, run_sizeOf hs, subV]

/-- one's own slice, cut: what is ahead of it is let go -/
theorem Own.sub {size : Nat} {v : Value} {N : Nat} {xs : List Value} {h : HM} (ho : (Own size v N xs).P h) {i j : Nat} (h1 : i ≤ j) (h2 : j ≤ N) (hs : 0 < size) : (Own size (subV size v i j) (j - i) ((xs.drop (i * size)).take ((j - i) * size))).P h := by
  have hr := (Own.reads ho).sub h1 h2
  refine ⟨hr.1, ?_⟩
  rcases ho.2 with ⟨rfl, rfl⟩ | ⟨gg, o, cap, cur, e, fr, rfl, e1, e2, e3, e4, e5, e6⟩
  · have : i = 0 := by omega
    have : j = 0 := by omega
    subst i; subst j
    exact .inl ⟨rfl, rfl⟩
  · right
    by_cases hci : cap = i
    · have : j = i := by omega
      subst j
      refine ⟨gg, o, 0, cur, e, fr, ?_, e1, e2, by omega, by simp [maxLen], by omega, by simp⟩
      simp [subV, hci]
    · refine ⟨gg, o + i * size, cap - i, cur, e, fr, ?_, e1, e2, by omega, by omega, ?_, ?_⟩
      · simp [subV, hci, Addr.add_none]
      · rw [Nat.mul_sub_right_distrib]
        have : i * size ≤ cap * size := Nat.mul_le_mul_right _ (by omega)
        omega
      · rw [← e6, List.drop_take, List.drop_drop, List.take_take, Nat.min_eq_left]
        rw [← Nat.mul_sub_right_distrib]
        exact Nat.mul_le_mul_right _ (by omega)

theorem sepL_map {L : List HItem} {i : Nat} {I J : HItem} {h : HM} (hi : L[i]? = some I) (hIJ : ∀ h, I.P h → J.P h) (hs : sepL L h) : sepL (L.set i J) h := by
  have hil : i < L.length := (List.getElem?_eq_some_iff.1 hi).1
  obtain ⟨D, hI, hL⟩ := sepL_front L i I h hi hs
  exact sepL_set hil ⟨D, hIJ _ hI, hL⟩
theorem Sat.map (hw : Sat s w L) (i : Nat) {I J : HItem} (hi : L[i]? = some I) (hIJ : ∀ h, I.P h → J.P h) : Sat s w (L.set i J) :=
  ⟨hw.1, hw.2.1, hw.2.2.1, sepL_map hi hIJ hw.2.2.2⟩

theorem op_sliceOwn (h : St n s a w E L) {t el : TypeId} {x : Operand} {lo hi : Option Operand} {v : Value} {N size by_ : Nat} {xs : List Value} (hx : ev E x = some v) (hu : P.underlying t = some (.slice el)) (hs : tsz P el = some (size, by_)) (it : Nat) (hi' : L[it]? = some (Own size v N xs))
    (i j : Nat) (hl : Bnd E lo 0 i) (hh : Bnd E hi N j) (h1 : i ≤ j) (h2 : j ≤ N) (hsz : Nat.blt 0 size = true) (hd : Nat.blt d n = true)
    (k : ∀ a w, St n s a w ((d, subV size v i j) :: E) (L.set it (Own size (subV size v i j) (j - i) ((xs.drop (i * size)).take ((j - i) * size)))) → next a w) :
    (Oper.mk (some d) (.slice t x lo hi none) ty pos aft g).wp P a w next Q :=
  op_run h (r_sliceV h hx hu hs (Views.own it hi') i j hl hh h1 h2) hd (h.2.map it hi' fun _ ho => Own.sub ho h1 h2 (Nat.le_of_ble_eq_true hsz)) k

/-! ### make -/
theorem op_makeSlice (h : St n s a w E L) {t el : TypeId} {x y : Operand} {k1 k2 : IntKind} {c1 c2 : Int} {size by_ : Nat} {z : Value} (hu : P.underlying t = some (.slice el)) (hs : tsz P el = some (size, by_)) (hz : tzero P el = some z) (hx : ev E x = some (.int k1 c1)) (hy : ev E y = some (.int k2 c2))
    (N M : Nat) (hN : c1 = (N : Int)) (hM : c2 = (M : Int)) (hNM : N ≤ M) (hM2 : M ≤ 4294967296) (hby : Nat.ble by_ 4096 = true) (hpos : Nat.blt 0 size = true) (hd : Nat.blt d n = true)
    (k : ∀ v a w, St n s a w ((d, v) :: E) (Own size v N ((List.range (N * size)).map fun j => z.cells[j % z.cells.size]!) :: L) → next a w) :
    (Oper.mk (some d) (.makeSlice t x y) ty pos aft g).wp P a w next Q := by
  subst hN; subst hM
  have hby' : by_ ≤ 4096 := Nat.le_of_ble_eq_true hby
  have hpos' : 0 < size := Nat.le_of_ble_eq_true hpos
  obtain ⟨inf, hinf, rfl, rfl⟩ := tsz_some hs
  have hz' : inf.zero = some z := by simpa [tzero, hinf] using hz
  have hb : inf.bytes * M ≤ 281474976710656 := Nat.le_trans (Nat.mul_le_mul hby' hM2) (by decide)
  have w1 : IntKind.i64.wrap (N : Int) = (N : Int) := wrap_i64 _ (by omega) (by omega)
  have w2 : IntKind.i64.wrap (M : Int) = (M : Int) := wrap_i64 _ (by omega) (by omega)
  let cells : Array Value := (Array.range (M * inf.size)).map fun j => z.cells[j % z.cells.size]!
  have hcs : cells.size = M * inf.size := by simp [cells]
  have hrun : (Instr.makeSlice t (.int k1 N) (.int k2 M)).run P w = .ok (.slice (some ⟨w.heap.size, 0, none⟩) N M) (w.alloc (.cells cells el)) := by
    have c1 : ¬ ((281474976710656 : Int) < (inf.bytes : Int) * (M : Int)) := by
      have : ((inf.bytes * M : Nat) : Int) ≤ 281474976710656 := by omega
      rw [Int.natCast_mul] at this; omega
    have c3 : ¬ ((M : Int) < 0) := by omega
    have c4 : ¬ ((N : Int) < 0) := by omega
    have c5 : ¬ ((M : Int) < (N : Int)) := by omega
    by_cases hM0 : M = 0
    · subst hM0
      have hN0 : N = 0 := by omega
      subst hN0
      have : cells = #[] := by apply Array.eq_empty_of_size_eq_zero; simpa using hcs
      have wz : IntKind.i64.wrap 0 = 0 := by decide
      simp [Instr.makeSlice, run_underlying hu, asInt, asIntOf, typeInfo, hinf, wz, sizeOf, newRow, this]
      have e0 : Array.range 0 = #[] := Array.eq_empty_of_size_eq_zero (by simp)
      rw [e0, Array.map_empty]
    · have : ¬ (inf.size = 0) := by omega
      simp [Instr.makeSlice, run_underlying hu, asInt, asIntOf, typeInfo, hinf, w1, w2, c1, c3, c4, c5, sizeOf, zeroValue, hz', hM0, this, newRow, cells]
      intro hh
      have h7 : 0 < M * inf.size := Nat.mul_pos (by omega) hpos'
      omega
  refine op_run h (v := .slice (some ⟨w.heap.size, 0, none⟩) N M) (w' := w.alloc (.cells cells el)) (by simp [execOp, h.1.ev hx, h.1.ev hy, hrun]) hd ?_ (k _)
  obtain ⟨e1, e2, e3, D, hI, hL⟩ := h.2.alloc (.cells cells el)
  refine ⟨e1, e2, e3, D, ⟨by simp, .inr ⟨_, 0, M, cells, el, (0, 0), rfl, hI, ?_, hNM, ?_, by omega, ?_⟩⟩, hL⟩
  · intro j _ hh; simp at hh
  · simp [maxLen]; omega
  · simp only [List.drop_zero, cells, Array.toList_map, Array.toList_range, ← List.map_take]
    congr 1
    rw [List.take_range, Nat.min_eq_left (Nat.mul_le_mul_right _ hNM)]

/-! ### copy -/
theorem op_copy (h : St n s a w E L) {t t2 el : TypeId} {x y : Operand} {size by_ N m : Nat} {v vx : Value} {xs news : List Value} (hx : ev E x = some v) (hy : ev E y = some vx) (hu : P.underlying t = some (.slice el)) (hs : tsz P el = some (size, by_)) (i : Nat) (hi : L[i]? = some (Own size v N xs))
    (hlen : ∀ w, (Builtin.lenOf vx).run P w = .ok m w) (hsrc : ∀ s w, Sat s w L → (Builtin.firstCells size (min m N) vx).run P w = .ok (news.take ((min m N) * size)).toArray w) (hnl : news.length = m * size) (h1 : ∀ u ∈ news, u.oneCell' = true)
    (k : ∀ a w, St n s a w (match dst with | some d => (d, .int .i64 ((min m N : Nat) : Int)) :: E | none => E) (L.set i (Own size v N (news.take (min m N * size) ++ xs.drop (min m N * size)))) → next a w) (hd : ∀ d, dst = some d → Nat.blt d n = true) :
    (Oper.mk dst (.call { callee := .builtin .copy, args := #[x, y], argTypes := #[t, t2] }) ty pos aft g).wp P a w next Q := by
  have hil : i < L.length := (List.getElem?_eq_some_iff.1 hi).1
  have hF := h.2.front i hi
  obtain ⟨e1, e2, e3, D, ⟨hxl, hI⟩, hL⟩ := hF
  have hmN : min m N ≤ N := Nat.min_le_right _ _
  have hmm : min m N ≤ m := Nat.min_le_left _ _
  have hnat : ∀ q : Nat, Nat.min m q = min m q := fun _ => rfl
  have htl : (news.take (min m N * size)).length = min m N * size := by
    rw [List.length_take, hnl]; exact Nat.min_eq_left (Nat.mul_le_mul_right _ hmm)
  have fin : ∀ w', (execOp a.eval (Oper.mk dst (.call { callee := .builtin .copy, args := #[x, y], argTypes := #[t, t2] }) ty pos aft g)).run P w = .ok (.value (.int .i64 ((min m N : Nat) : Int))) w' →
      Sat s w' (L.set i (Own size v N (news.take (min m N * size) ++ xs.drop (min m N * size)))) → (Oper.mk dst (.call { callee := .builtin .copy, args := #[x, y], argTypes := #[t, t2] }) ty pos aft g).wp P a w next Q := by
    intro w' hr hw'
    cases dst with
    | none => exact op_run0 h hr hw' k
    | some d => exact op_run h hr (hd d rfl) hw' k
  rcases hI with ⟨rfl, rfl⟩ | ⟨b, o, cap, cur, e, fr, rfl, hb, hfr, hnc, hcm, hcs, hxx⟩
  · have hx0 : xs = [] := List.eq_nil_of_length_eq_zero (by simpa using hxl)
    subst hx0
    have hs0 := hsrc s w h.2
    simp only [Nat.min_zero, Nat.zero_mul, List.take_zero] at hs0
    refine fin w ?_ ?_
    · simp [execOp, resolve, invoke, builtin, h.1.ev hx, h.1.ev hy, Builtin.copy_, run_underlying hu, hlen, hnat, run_sizeOf hs, hs0, goInt]
    · refine ⟨e1, e2, e3, sepL_set hil ⟨D, ⟨by simp, .inl ⟨rfl, rfl⟩⟩, hL⟩⟩
  · have hb' : w.heap[b]? = some (.cells cur e fr) := restr_le b _ hb
    have hs0 := hsrc s w h.2
    have hle : min m N * size ≤ cap * size := Nat.mul_le_mul_right _ (by omega)
    have hle2 : min m N * size ≤ N * size := Nat.mul_le_mul_right _ hmN
    obtain ⟨w', hr, g1, g2, g3, g4, g5⟩ := run_storeCells_gen P b e fr o (news.take (min m N * size)) 0 cur w hb' (by rw [htl]; omega) hfr (fun u hu => h1 u (List.mem_of_mem_take hu))
    refine fin w' ?_ ?_
    · simp [execOp, resolve, invoke, builtin, h.1.ev hx, h.1.ev hy, Builtin.copy_, run_underlying hu, hlen, hnat, run_sizeOf hs, hs0, hr, goInt]
    · have hD : D b = true := by
        simp only [restr] at hb
        split at hb
        · assumption
        · cases hb
      refine ⟨g1.trans e1, g2.trans e2, g3.trans e3, sepL_set hil ⟨D, ⟨?_, .inr ⟨b, o, cap, splice cur (o + 0) (news.take (min m N * size)), e, fr, rfl, ?_, ?_, hnc, hcm, ?_, ?_⟩⟩, ?_⟩⟩
      · rw [List.length_append, htl, List.length_drop, hxl]; omega
      · show restr D (hmOf w') b = _
        simp only [restr, hD, if_true]
        exact g4
      · rw [splice_size _ _ _ (by rw [htl]; omega)]; exact hfr
      · rw [splice_size _ _ _ (by rw [htl]; omega)]; exact hcs
      · have hcl : cur.toList.length = cur.size := Array.length_toList
        have hNc : N * size ≤ cap * size := Nat.mul_le_mul_right _ hnc
        rw [← hxx]
        simp only [splice, Nat.add_zero, List.append_assoc]
        rw [List.drop_append_of_le_length (by simp; omega)]
        have e0 : (cur.toList.take o).drop o = [] := by rw [List.drop_eq_nil_iff]; simp; omega
        rw [e0, List.nil_append, List.take_append, htl, List.take_of_length_le (by rw [htl]; exact hle2)]
        rw [List.drop_take, List.drop_drop]
      · refine sepL_mono _ ?_ hL
        intro q u hk
        simp only [restr] at hk ⊢
        split at hk
        · rename_i hk'
          rw [if_pos hk']
          have : q ≠ b := by intro ee; subst ee; simp [hD] at hk'
          show w'.heap[q]? = some u
          rw [g5 q this]; exact hk
        · cases hk

/-! ### an element of one's own slice is written -/
theorem op_indexAddrOwn (h : St n s a w E L) {t el : TypeId} {x ix : Operand} {size N by_ : Nat} {v : Value} {xs : List Value} {k1 : IntKind} {c : Int} (hx : ev E x = some v) (hi : ev E ix = some (.int k1 c)) (hu : P.underlying t = some (.slice el)) (hs : tsz P el = some (size, by_))
    (it : Nat) (hit : L[it]? = some (Own size v N xs)) (j : Nat) (hj : c = (j : Int)) (hlt : j < N)
    (hd : Nat.blt d n = true) (k : ∀ b o cap a w, v = .slice (some ⟨b, o, none⟩) N cap → St n s a w ((d, .pointer (some ⟨b, o + j * size, none⟩)) :: E) L → next a w) : (Oper.mk (some d) (.indexAddr t x ix) ty pos aft g).wp P a w next Q := by
  have hv : Views L size v N xs := Views.own it hit
  obtain ⟨b, o, cap, rfl, hc⟩ := hv.cell h.2 hlt rfl
  refine op_run h (v := .pointer (some ⟨b, o + j * size, none⟩)) (w' := w) ?_ hd h.2 (k b o cap · · rfl)
  subst hj
  have h3 : ¬ N ≤ j := by omega
  simp [execOp, h.1.ev hx, h.1.ev hi, Instr.indexAt, asIntOf, run_underlying hu, run_sizeOf hs, hlt, h3, Addr.add_none]

theorem op_storeOwn (h : St n s a w E L) {t : TypeId} {x y : Operand} {b o q size N cap by_ : Nat} {u : Value} {xs : List Value} (hx : ev E x = some (.pointer (some ⟨b, q, none⟩))) (hy : ev E y = some u) (hs : tsz P t = some (1, by_)) (h1 : u.oneCell' = true)
    (it : Nat) (hit : L[it]? = some (Own size (.slice (some ⟨b, o, none⟩) N cap) N xs)) (j : Nat) (hq : q = o + j) (hj : j < N * size)
    (k : ∀ a w, St n s a w E (L.set it (Own size (.slice (some ⟨b, o, none⟩) N cap) N (xs.set j u))) → next a w) : (Oper.mk none (.store t x y) ty pos aft g).wp P a w next Q := by
  subst hq
  have hil : it < L.length := (List.getElem?_eq_some_iff.1 hit).1
  have hF := h.2.front it hit
  obtain ⟨e1, e2, e3, D, ⟨hxl, hI⟩, hL⟩ := hF
  rcases hI with ⟨hn, _⟩ | ⟨b', o', cap', cur, e, fr, hvv, hb, hfr, hnc, hcm, hcs, hxx⟩
  · cases hn
  · simp only [Value.slice.injEq, Option.some.injEq, Addr.mk.injEq, and_true, true_and] at hvv
    obtain ⟨⟨rfl, rfl⟩, rfl⟩ := hvv
    have hb' : w.heap[b]? = some (.cells cur e fr) := restr_le b _ hb
    have hNc : N * size ≤ cap * size := Nat.mul_le_mul_right _ hnc
    have hlt : o + j < cur.size := by omega
    have hcells : u.cells = #[u] := by cases u <;> simp_all [Value.oneCell', Value.cells]
    have hst : (storeCells ⟨b, o + j, none⟩ [u] 0).run P w = .ok () (w.setCell ⟨b, o + j, none⟩ u) := by
      have hcell : w.cell? ⟨b, o + j, none⟩ = some cur[o + j] := by simp [World.cell?, hb', hlt]
      have hfz : w.frozen? ⟨b, o + j, none⟩ = false := by
        simp only [World.frozen?, hb']
        have := hfr (o + j) hlt
        simp; omega
      simp [storeCells, Addr.add_none, run_store P w _ u .plain h1, hcell, hfz]
    refine op_run_skip h (w' := w.setCell ⟨b, o + j, none⟩ u) ?_ ?_ k
    · simp [execOp, h.1.ev hx, h.1.ev hy, Instr.storeAt, Instr.sureAddr, storeVar, hcells, run_sizeOf hs]
      rw [hst]; rfl
    · have hD : D b = true := by
        simp only [restr] at hb
        split at hb
        · assumption
        · cases hb
      have hb2 : (w.setCell ⟨b, o + j, none⟩ u).heap[b]? = some (.cells (cur.setIfInBounds (o + j) u) e fr) := by
        simp [World.setCell, Array.getElem?_modify, hb']
      refine ⟨e1, e2, e3, sepL_set hil ⟨D, ⟨by simpa using hxl, .inr ⟨b, o, cap, cur.setIfInBounds (o + j) u, e, fr, rfl, ?_, by simpa using hfr, hnc, hcm, by simpa using hcs, ?_⟩⟩, ?_⟩⟩
      · show restr D (hmOf _) b = _
        simp only [restr, hD, if_true]
        exact hb2
      · rw [← hxx, Array.toList_setIfInBounds, ← List.take_set]
        congr 1
        rw [List.drop_set, if_neg (by omega)]
        congr 1; omega
      · refine sepL_mono _ ?_ hL
        intro q u' hk
        simp only [restr] at hk ⊢
        split at hk
        · rename_i hk'
          rw [if_pos hk']
          have : q ≠ b := by intro ee; subst ee; simp [hD] at hk'
          show (w.setCell ⟨b, o + j, none⟩ u).heap[q]? = some u'
          simp [World.setCell, Array.getElem?_modify, Ne.symm this]
          exact hk
        · cases hk

end
end Go.Sl

/- A small library for walks, part J: slices of bytes. No statement is proved here. -/
namespace Go.Sl

/-- bytes that are a call's own -/
def OwnB (v : Value) (l : List UInt8) : HItem := Own 1 v l.length (bs l)
def ViewsB (L : List HItem) (v : Value) (l : List UInt8) : Prop := Views L 1 v l.length (bs l)

theorem bs_append (l m : List UInt8) : bs (l ++ m) = bs l ++ bs m := by simp [bs]
theorem bs_take (l : List UInt8) (k : Nat) : (bs l).take k = bs (l.take k) := by simp [bs, List.map_take]
theorem bs_drop (l : List UInt8) (k : Nat) : (bs l).drop k = bs (l.drop k) := by simp [bs, List.map_drop]
theorem bs_one : ∀ (l : List UInt8), ∀ u ∈ bs l, u.oneCell' = true := by
  intro l u hu
  simp only [bs, List.mem_map] at hu
  obtain ⟨x, _, rfl⟩ := hu
  rfl
theorem bs_length (l : List UInt8) : (bs l).length = l.length := by simp [bs]
theorem OwnB_eq {v : Value} {N : Nat} {xs : List Value} {l : List UInt8} (hx : xs = bs l) (hN : N = l.length) : Own 1 v N xs = OwnB v l := by subst hx; subst hN; rfl

theorem Views.oneCell {L : List HItem} {size : Nat} {v : Value} {n : Nat} {xs : List Value} (hv : Views L size v n xs) {s w : World} (hs : Sat s w L) : v.oneCell' = true := by
  obtain ⟨A, cap, rfl, _⟩ := hv.shape hs
  rfl
theorem ViewsB.own {L : List HItem} {v : Value} {l : List UInt8} (i : Nat) (hi : L[i]? = some (OwnB v l)) : ViewsB L v l := Views.own i hi
theorem ViewsB.cons {L : List HItem} {v : Value} {l : List UInt8} (h : ViewsB L v l) (I : HItem) : ViewsB (I :: L) v l := Views.cons h I
theorem ViewsB.sub {L : List HItem} {v : Value} {l : List UInt8} (h : ViewsB L v l) {i j : Nat} (h1 : i ≤ j) (h2 : j ≤ l.length) : ViewsB L (subV 1 v i j) ((l.drop i).take (j - i)) := by
  have := Views.sub h h1 h2
  unfold ViewsB
  have e : ((bs l).drop (i * 1)).take ((j - i) * 1) = bs ((l.drop i).take (j - i)) := by rw [Nat.mul_one, Nat.mul_one, bs_drop, bs_take]
  rw [e] at this
  have e2 : ((l.drop i).take (j - i)).length = j - i := by rw [List.length_take, List.length_drop]; omega
  rw [e2]; exact this
theorem ViewsB.nil (L : List HItem) : ViewsB L (.slice none 0 0) [] := Views.nil L 1
theorem Src.bytes {P : Program} {L : List HItem} {t el : TypeId} {vx : Value} {l : List UInt8} (hu : P.underlying t = some (.slice el)) (hv : ViewsB L vx l) {s w : World} (hs : Sat s w L) : Src P L 1 t vx l.length (bs l) := Src.views hu hv hs

section
variable {P : Program} {n : Nat} {s w : World} {a : Act} {E : List (Nat × Value)} {L : List HItem} {Q : Exit → Act → World → Prop} {next : Act → World → Prop}
variable {d : Nat} {dst : Option Nat} {ty : TypeId} {pos : String} {aft : Array Edge} {g : Option (Nat × Bool)}

/-- one element of one cell more, out of the block that was made for it -/
theorem op_append1 {T : TypeId} {b : Nat} {u : Value} {fr : Nat × Nat} (h : St n s a w E (Blk b (.cells #[u] T fr) :: L)) {t el : TypeId} {x y : Operand} {bytes N : Nat} {z v : Value} {xs : List Value} (hx : ev E x = some v) (hy : ev E y = some (.slice (some ⟨b, 0, none⟩) 1 1)) (hu : P.underlying t = some (.slice el)) (hs : tsz P el = some (1, bytes)) (hz : tzero P el = some z)
    (hzs : z.cells.size = 1) (hby : Nat.ble bytes 4096 = true) (i : Nat) (hi : L[i]? = some (Own 1 v N xs)) (h1 : u.oneCell' = true) (hN : N + 1 ≤ 4294967296)
    (hd : Nat.blt d n = true) (k : ∀ v' a w, St n s a w ((d, v') :: E) (L.set i (Own 1 v' (N + 1) (xs ++ [u]))) → next a w) :
    (Oper.mk (some d) (.call { callee := .builtin .append, args := #[x, y], argTypes := #[t, t] }) ty pos aft g).wp P a w next Q := by
  have hv : Views (Blk b (.cells #[u] T fr) :: L) 1 (.slice (some ⟨b, 0, none⟩) 1 1) 1 [u] := Views.blk 0 rfl rfl rfl rfl rfl
  refine op_append h hx hy hu hs hz hzs hby (i + 1) (by simpa using hi) (Src.views hu hv h.2) (by intro u' hu'; simp at hu'; subst hu'; exact h1) hN hd (fun v' a w h => k v' a w ?_)
  exact h.drop 1
/-- one byte more -/
theorem op_appendb {T : TypeId} {b : Nat} {u : UInt8} {fr : Nat × Nat} (h : St n s a w E (Blk b (.cells #[bv u] T fr) :: L)) {t el : TypeId} {x y : Operand} {bytes : Nat} {z v : Value} {l : List UInt8} (hx : ev E x = some v) (hy : ev E y = some (.slice (some ⟨b, 0, none⟩) 1 1)) (hu : P.underlying t = some (.slice el)) (hs : tsz P el = some (1, bytes)) (hz : tzero P el = some z)
    (hzs : z.cells.size = 1) (hby : Nat.ble bytes 4096 = true) (i : Nat) (hi : L[i]? = some (OwnB v l)) (hN : l.length + 1 ≤ 4294967296)
    (hd : Nat.blt d n = true) (k : ∀ v' a w, St n s a w ((d, v') :: E) (L.set i (OwnB v' (l ++ [u]))) → next a w) :
    (Oper.mk (some d) (.call { callee := .builtin .append, args := #[x, y], argTypes := #[t, t] }) ty pos aft g).wp P a w next Q := by
  refine op_append1 h hx hy hu hs hz hzs hby i hi rfl hN hd (fun v' a w h => k v' a w ?_)
  have e : Own 1 v' (l.length + 1) (bs l ++ [bv u]) = OwnB v' (l ++ [u]) := OwnB_eq (by simp [bs]) (by simp)
  rw [e] at h; exact h
/-- bytes behind bytes -/
theorem op_appendbs (h : St n s a w E L) {t t2 el : TypeId} {x y : Operand} {bytes : Nat} {z v vx : Value} {l m : List UInt8} (hx : ev E x = some v) (hy : ev E y = some vx) (hu : P.underlying t = some (.slice el)) (hs : tsz P el = some (1, bytes)) (hz : tzero P el = some z)
    (hzs : z.cells.size = 1) (hby : Nat.ble bytes 4096 = true) (i : Nat) (hi : L[i]? = some (OwnB v l)) (S : Src P L 1 t2 vx m.length (bs m)) (hN : l.length + m.length ≤ 4294967296)
    (hd : Nat.blt d n = true) (k : ∀ v' a w, St n s a w ((d, v') :: E) (L.set i (OwnB v' (l ++ m))) → next a w) :
    (Oper.mk (some d) (.call { callee := .builtin .append, args := #[x, y], argTypes := #[t, t2] }) ty pos aft g).wp P a w next Q := by
  refine op_append h hx hy hu hs hz hzs hby i hi S (bs_one m) hN hd (fun v' a w h => k v' a w ?_)
  have e : Own 1 v' (l.length + m.length) (bs l ++ bs m) = OwnB v' (l ++ m) := OwnB_eq (by simp [bs]) (by simp)
  rw [e] at h; exact h
/-- bytes behind nil: one's own copy -/
theorem op_appendnbs (h : St n s a w E L) {t t2 el : TypeId} {x y : Operand} {bytes : Nat} {z vx : Value} {m : List UInt8} (hx : ev E x = some (.slice none 0 0)) (hy : ev E y = some vx) (hu : P.underlying t = some (.slice el)) (hs : tsz P el = some (1, bytes)) (hz : tzero P el = some z)
    (hzs : z.cells.size = 1) (hby : Nat.ble bytes 4096 = true) (S : Src P L 1 t2 vx m.length (bs m)) (hN : m.length ≤ 4294967296)
    (hd : Nat.blt d n = true) (k : ∀ v' a w, St n s a w ((d, v') :: E) (OwnB v' m :: L) → next a w) :
    (Oper.mk (some d) (.call { callee := .builtin .append, args := #[x, y], argTypes := #[t, t2] }) ty pos aft g).wp P a w next Q :=
  op_appendNil h hx hy hu hs hz hzs hby S (bs_one m) hN hd k
theorem op_s2bb (h : St n s a w E L) {t u el : TypeId} {x : Operand} {l : List UInt8} (hx : ev E x = some (.string ⟨⟨l⟩⟩)) (ht : P.underlying t = some .string) (hu : P.underlying u = some (.slice el)) (he : P.underlying el = some (.int .u8))
    (hl : l.length ≤ 4294967296) (hd : Nat.blt d n = true) (k : ∀ v a w, St n s a w ((d, v) :: E) (OwnB v l :: L) → next a w) : (Oper.mk (some d) (.convert t u x) ty pos aft g).wp P a w next Q :=
  op_s2b h hx ht hu he hl hd k
/-- a byte that is read -/
theorem op_indexAddrb (h : St n s a w E L) {t el : TypeId} {x ix : Operand} {by_ : Nat} {v : Value} {l : List UInt8} {k1 : IntKind} {c : Int} (hx : ev E x = some v) (hi : ev E ix = some (.int k1 c)) (hu : P.underlying t = some (.slice el)) (hs : tsz P el = some (1, by_))
    (hv : ViewsB L v l) (j : Nat) (hj : c = (j : Int)) {u : UInt8} (hlj : l[j]? = some u)
    (hd : Nat.blt d n = true) (k : ∀ p a w, CellsAt L p [bv u] → St n s a w ((d, .pointer (some p)) :: E) L → next a w) : (Oper.mk (some d) (.indexAddr t x ix) ty pos aft g).wp P a w next Q := by
  have hlt : j < l.length := (List.getElem?_eq_some_iff.1 hlj).1
  refine op_indexAddr h hx hi hu hs hv j hj hlt ?_ hd k
  have : (bs l)[j]? = some (bv u) := by simp [bs, hlj]
  rw [Nat.mul_one, List.drop_eq_getElem_cons (by simpa [bs] using hlt)]
  have e : (bs l)[j]'(by simpa [bs] using hlt) = bv u := (List.getElem?_eq_some_iff.1 this).2
  simp [e]
theorem r_b2sb (h : St n s a w E L) {t u el : TypeId} {x : Operand} {v : Value} {l : List UInt8} (hx : ev E x = some v) (ht : P.underlying t = some (.slice el)) (he : P.underlying el = some (.int .u8)) (hu : P.underlying u = some .string)
    (hv : ViewsB L v l) : (execOp a.eval ⟨dst, .convert t u x, ty, pos, aft, g⟩).run P w = .ok (.value (sv l)) w := r_b2s h hx ht he hu hv
theorem r_lenB (h : St n s a w E L) {t el : TypeId} {x : Operand} {v : Value} {l : List UInt8} (hx : ev E x = some v) (hu : P.underlying t = some (.slice el)) (hv : ViewsB L v l) :
    (execOp a.eval ⟨dst, .call { callee := .builtin .len, args := #[x], argTypes := #[t] }, ty, pos, aft, g⟩).run P w = .ok (.value (.int .i64 (l.length : Int))) w := r_lenV h hx hu hv
theorem r_sliceB (h : St n s a w E L) {t el : TypeId} {x : Operand} {lo hi : Option Operand} {v : Value} {l : List UInt8} {by_ : Nat} (hx : ev E x = some v) (hu : P.underlying t = some (.slice el)) (hs : tsz P el = some (1, by_)) (hv : ViewsB L v l)
    (i j : Nat) (hl : Bnd E lo 0 i) (hh : Bnd E hi l.length j) (h1 : i ≤ j) (h2 : j ≤ l.length) :
    (execOp a.eval ⟨dst, .slice t x lo hi none, ty, pos, aft, g⟩).run P w = .ok (.value (subV 1 v i j)) w := r_sliceV h hx hu hs hv i j hl hh h1 h2
/-- one's own bytes, cut -/
theorem op_sliceOwnb (h : St n s a w E L) {t el : TypeId} {x : Operand} {lo hi : Option Operand} {v : Value} {by_ : Nat} {l : List UInt8} (hx : ev E x = some v) (hu : P.underlying t = some (.slice el)) (hs : tsz P el = some (1, by_)) (it : Nat) (hi' : L[it]? = some (OwnB v l))
    (i j : Nat) (hl : Bnd E lo 0 i) (hh : Bnd E hi l.length j) (h1 : i ≤ j) (h2 : j ≤ l.length) (hd : Nat.blt d n = true)
    (k : ∀ v' a w, St n s a w ((d, v') :: E) (L.set it (OwnB v' ((l.drop i).take (j - i)))) → next a w) :
    (Oper.mk (some d) (.slice t x lo hi none) ty pos aft g).wp P a w next Q := by
  refine op_sliceOwn h hx hu hs it hi' i j hl hh h1 h2 rfl hd (fun a w h => k (subV 1 v i j) a w ?_)
  have e : Own 1 (subV 1 v i j) (j - i) (((bs l).drop (i * 1)).take ((j - i) * 1)) = OwnB (subV 1 v i j) ((l.drop i).take (j - i)) :=
    OwnB_eq (by rw [Nat.mul_one, Nat.mul_one, bs_drop, bs_take]) (by rw [List.length_take, List.length_drop]; omega)
  rw [e] at h; exact h
/-- a slice written out is one's own -/
theorem St.toOwnb {b : Nat} {vs : Array Value} {T : TypeId} {fr : Nat × Nat} (h : St n s a w E (Blk b (.cells vs T fr) :: L)) (l : List UInt8) (hf : NF fr vs.size) (hx : vs.toList = bs l) (hm : Nat.ble l.length maxLen = true) :
    St n s a w E (OwnB (.slice (some ⟨b, 0, none⟩) l.length l.length) l :: L) :=
  ⟨h.1, h.2.toOwn 1 l.length hf (Nat.le_of_ble_eq_true hm) hx (by rw [Nat.mul_one, ← bs_length l, ← hx]; simp)⟩
theorem NF.zero (k : Nat) : NF (0, 0) k := by intro j _ h; simp at h
/-- a nil slice as one's own -/
theorem St.addNil (h : St n s a w E L) (size : Nat) : St n s a w E (Own size (.slice none 0 0) 0 [] :: L) :=
  ⟨h.1, h.2.1, h.2.2.1, h.2.2.2.1, fun _ => false, ⟨by simp, .inl ⟨rfl, rfl⟩⟩, sepL_mono L (fun b o hb => by simpa [restr] using hb) h.2.2.2.2⟩
theorem St.addNilb (h : St n s a w E L) : St n s a w E (OwnB (.slice none 0 0) [] :: L) := h.addNil 1

/-- the places of a struct's fields: offset, cells -/
def fplaces (P : Program) (t : TypeId) : Option (List (Nat × Nat)) := match P.underlying t with
  | some (.struct fs) => fs.toList.mapM fun f => (tsz P f.type).map fun q => (f.offset, q.1)
  | _ => none

theorem run_places (P : Program) : ∀ (fs : List Field) (pl : List (Nat × Nat)) (w : World), fs.mapM (fun f => (tsz P f.type).map fun q => (f.offset, q.1)) = some pl →
    (fs.mapM (fun f => (do pure (f.offset, ← sizeOf f.type) : Sem (Nat × Nat)))).run P w = .ok pl w
  | [], pl, w, h => by simp at h; simp [h]
  | f :: fs, pl, w, h => by
    rw [List.mapM_cons] at h
    cases e : tsz P f.type with
    | none => simp [e] at h
    | some q =>
      simp only [e, Option.map_some, Option.bind_eq_bind, Option.bind_some] at h
      cases e2 : fs.mapM (fun f => (tsz P f.type).map fun q => (f.offset, q.1)) with
      | none => simp [e2] at h
      | some pl2 =>
        simp only [e2, Option.bind_some, Option.pure_def, Option.some.injEq] at h
        subst h
        have ih := run_places P fs pl2 w e2
        rw [List.mapM_cons]
        simp only [Sem.run_bind, run_sizeOf (a := q.1) (b := q.2) (by simpa using e), Result.andThen_ok, Sem.run_pure, ih]

/-- a struct written out -/
theorem r_build (h : St n s a w E L) {t : TypeId} {ps : List (Nat × Operand)} {vs : List (Nat × Value)} {fs : Array Field} {pl : List (Nat × Nat)} {z : Value} {cells : Array Value} (hu : P.underlying t = some (.struct fs)) (hz : tzero P t = some z) (hp : fplaces P t = some pl) (hx : evp E ps = some vs)
    (hc : Instr.fill (fun i : Nat => pl[i]?) z.cells vs = some cells) : (execOp a.eval ⟨dst, .build t ps.toArray, ty, pos, aft, g⟩).run P w = .ok (.value (.agg cells)) w := by
  have h3 : (ps.toArray.map fun (i, x) => (i, a.eval x)).toList = vs := by simpa using h.1.evp hx
  have hpl : (fs.mapM (fun f => (do pure (f.offset, ← sizeOf f.type) : Sem (Nat × Nat)))).run P w = .ok pl.toArray w := by
    have : fplaces P t = fs.toList.mapM (fun f => (tsz P f.type).map fun q => (f.offset, q.1)) := by simp [fplaces, hu]
    rw [this] at hp
    have hr := run_places P fs.toList pl w hp
    rw [Array.mapM_eq_mapM_toList]
    simp only [Sem.run_map, hr, Result.andThen_ok]
  simp only [execOp, Instr.build, Sem.run_bind, run_zeroValue hz, Result.andThen_ok, run_underlying hu, hpl, h3]
  have e : (fun x : Nat => pl.toArray[x]?) = (fun i : Nat => pl[i]?) := by funext i; simp
  rw [e, hc]
  rfl
/-- an array written out -/
theorem r_buildA (h : St n s a w E L) {t el : TypeId} {ps : List (Nat × Operand)} {vs : List (Nat × Value)} {N size by_ : Nat} {z : Value} {cells : Array Value} (hu : P.underlying t = some (.array N el)) (hz : tzero P t = some z) (hs : tsz P el = some (size, by_)) (hx : evp E ps = some vs)
    (hc : Instr.fill (fun i => some (i * size, size)) z.cells vs = some cells) : (execOp a.eval ⟨dst, .build t ps.toArray, ty, pos, aft, g⟩).run P w = .ok (.value (.agg cells)) w := by
  have h3 : (ps.toArray.map fun (i, x) => (i, a.eval x)).toList = vs := by simpa using h.1.evp hx
  simp only [execOp, Instr.build, Sem.run_bind, run_zeroValue hz, Result.andThen_ok, run_underlying hu, run_sizeOf hs, h3, hc]
  rfl
theorem r_makeFunc (h : St n s a w E L) {fn : Fn} {fs cs : List Operand} {vf vc : List Value} (hf : evs E fs = some vf) (hc : evs E cs = some vc) :
    (execOp a.eval ⟨dst, .makeFunc fn fs.toArray cs.toArray, ty, pos, aft, g⟩).run P w = .ok (.value (.func fn vf.toArray vc.toArray)) w := by
  simp [execOp, Instr.makeFunc, h.1.evs hf, h.1.evs hc]
end
end Go.Sl

/- A small library for walks, part K: drawn regions with effects. No statement is proved here. -/
namespace Go.Sl
section
variable {P : Program} {n : Nat} {s w : World} {a : Act} {E : List (Nat × Value)} {L F : List HItem} {Q : Exit → Act → World → Prop} {ops : Array Oper} {listed listed' : Array Bool} {fuel : Nat}
variable {d : Nat} {ty : TypeId} {pos : String} {aft : Array Edge} {op : Op} {v : Value}

/-! ### A region that draws its order, some of whose operations turn the world: those that don't are taken first -/
def Held (P : Program) (s : World) (ops : Array Oper) (Q : Exit → Act → World → Prop) (F : List HItem) (fuel : Nat) (listed : Array Bool) (a : Act) (w : World) : Prop := wpAnyH P .any ops Q (fun w => Sat s w F) fuel listed a w

theorem c_held {id : Nat} {l : List Oper} (F : List HItem) (N : Nat) (hm : P.follows .mixedOrders = true) (hN : l.length = N) (h : St n s a w E L) (k : ∀ a w, St n s a w E L → Held P s l.toArray Q F N (Array.replicate N false) a w) : (Code.region id l.toArray true).wp P Q a w := by
  subst hN
  refine wp_region_held (S := fun w => Sat s w F) hm ?_
  have := k a { w with drawn := w.drawn + 1 } ⟨h.1, h.2.congr rfl rfl rfl rfl⟩
  simpa [Held] using this

theorem c_heldL {id : Nat} {l : List Oper} (N : Nat) (hm : P.follows .mixedOrders = true) (hN : l.length = N) (h : St n s a w E L) (k : ∀ a w, St n s a w E L → Held P s l.toArray Q L N (Array.replicate N false) a w) : (Code.region id l.toArray true).wp P Q a w := c_held L N hm hN h k

/-- number i is taken first: it yields its value wherever F holds, and leaves the world alone -/
theorem h_take (h : St n s a w E L) (i : Nat) (hl : listed.setIfInBounds i true = listed') (hi : ops[i]? = some (Oper.mk (some d) op ty pos aft none)) (hs : Region.noSelect ops = true) (hf : Region.free .any ops listed i = true) (hr : (Region.ready .any ops listed).contains i = true)
    (hQ : ∀ c a w, Q (.panic c) (a.put (some d) v) w → Q (.panic c) a w) (hF : Sat s w F) (hrun : ∀ w, Sat s w F → (execOp a.eval (Oper.mk (some d) op ty pos aft none)).run P w = .ok (.value v) w) (hd : Nat.blt d n = true)
    (k : ∀ a w, St n s a w ((d, v) :: E) L → Held P s ops Q F fuel listed' a w) : Held P s ops Q F (fuel + 1) listed a w := by
  subst hl
  exact wpAnyH_take hi hs hf hr hQ (.inl ⟨by simp [Region.wanted], hrun⟩) hF (k _ _ ⟨h.1.put hd v, h.2⟩)
theorem h_takeg (h : St n s a w E L) (i : Nat) {j : Nat} {b : Bool} (hl : listed.setIfInBounds i true = listed') (hi : ops[i]? = some (Oper.mk (some d) op ty pos aft (some (j, b)))) (hs : Region.noSelect ops = true) (hf : Region.free .any ops listed i = true) (hr : (Region.ready .any ops listed).contains i = true)
    (hQ : ∀ c a w, Q (.panic c) (a.put (some d) v) w → Q (.panic c) a w) (hF : Sat s w F) (hrun : ∀ w, Sat s w F → (execOp a.eval (Oper.mk (some d) op ty pos aft (some (j, b)))).run P w = .ok (.value v) w) (hj : gv ops E j = some b) (hd : Nat.blt d n = true)
    (k : ∀ a w, St n s a w ((d, v) :: E) L → Held P s ops Q F fuel listed' a w) : Held P s ops Q F (fuel + 1) listed a w := by
  subst hl
  exact wpAnyH_take hi hs hf hr hQ (.inl ⟨by simp [Region.wanted, gv_yielded h.1 hj], hrun⟩) hF (k _ _ ⟨h.1.put hd v, h.2⟩)
theorem h_takes (h : St n s a w E L) (i : Nat) {j : Nat} {b : Bool} (hl : listed.setIfInBounds i true = listed') (hi : ops[i]? = some (Oper.mk (some d) op ty pos aft (some (j, b)))) (hs : Region.noSelect ops = true) (hf : Region.free .any ops listed i = true) (hr : (Region.ready .any ops listed).contains i = true)
    (hQ : ∀ c a w, Q (.panic c) (a.put (some d) undef) w → Q (.panic c) a w) (hF : Sat s w F) (hj : gvNot ops E j b = true) (hd : Nat.blt d n = true)
    (k : ∀ a w, St n s a w ((d, undef) :: E) L → Held P s ops Q F fuel listed' a w) : Held P s ops Q F (fuel + 1) listed a w := by
  subst hl
  exact wpAnyH_take hi hs hf hr hQ (.inr ⟨by simp only [Region.wanted]; rw [gvNot_wanted h.1 hj], rfl⟩) hF (k _ _ ⟨h.1.put hd _, h.2⟩)

/-- number i is the only one that may come up -/
theorem h_only (i : Nat) {o : Oper} (hl : listed.setIfInBounds i true = listed') (hi : ops[i]? = some o) (hg : o.guard = none) (hr : Region.ready .any ops listed = [i])
    (k : o.wp P a w (fun a' w' => Sat s w' F ∧ Held P s ops Q F fuel listed' a' w') Q) : Held P s ops Q F (fuel + 1) listed a w := by
  subst hl
  refine wpAnyH_all hr (by simp) (fun j hj => ?_)
  simp only [List.mem_singleton] at hj
  subst hj
  unfold wpOp
  simp only [hi]
  rw [if_pos (by simp [Region.wanted, hg])]
  exact .inl k
theorem h_onlyg (h : St n s a w E L) (i : Nat) {o : Oper} {j : Nat} {b : Bool} (hl : listed.setIfInBounds i true = listed') (hi : ops[i]? = some o) (hg : o.guard = some (j, b)) (hj : gv ops E j = some b) (hr : Region.ready .any ops listed = [i])
    (k : o.wp P a w (fun a' w' => Sat s w' F ∧ Held P s ops Q F fuel listed' a' w') Q) : Held P s ops Q F (fuel + 1) listed a w := by
  subst hl
  refine wpAnyH_all hr (by simp) (fun j hj' => ?_)
  simp only [List.mem_singleton] at hj'
  subst hj'
  unfold wpOp
  simp only [hi]
  rw [if_pos (by simp [Region.wanted, hg, gv_yielded h.1 hj])]
  exact .inl k
theorem h_done (hr : Region.ready .any ops listed = []) (h : Q .normal a w) : Held P s ops Q F fuel listed a w := wpAnyH_done hr h fuel
end
end Go.Sl

/- A small library for walks, part L: what comes in. No statement is proved here. -/
namespace Go.Sl
open Go.ChangeShapes Go.WideShapes Go.ChangeAt Go.RowKit

/-! ### What comes in -/
theorem RDh.of_cells {W : World} {a : Addr} {size n cap : Nat} {xs : List Value} (hl : xs.length = n * size) (h1 : n ≤ cap) (h2 : cap ≤ maxLen) (hp : 0 < size) (hc : ∀ j u, xs[j]? = some u → W.cell? (a.add j) = some u) : RDh size (.slice (some a) n cap) n xs (hmOf W) := by
  refine ⟨hl, some a, cap, rfl, h1, h2, ?_⟩
  by_cases hn : n = 0
  · exact .inl hn
  · right
    have hx : 0 < xs.length := by rw [hl]; exact Nat.mul_pos (by omega) hp
    have h0 := hc 0 xs[0] (by simp [hx])
    obtain ⟨b, o, sp⟩ := a
    have hsp : sp = none := by simpa [Addr.add] using World.cell?_spot h0
    subst hsp
    rw [Addr.add_none] at h0
    obtain ⟨cur, e, fr, hb⟩ : ∃ cur e fr, W.heap[b]? = some (.cells cur e fr) := by
      simp only [World.cell?] at h0
      split at h0
      · rename_i c e fr hh; exact ⟨c, e, fr, hh⟩
      · cases h0
    refine ⟨b, o, cur, e, fr, rfl, hb, ?_⟩
    have hcur : ∀ j u, xs[j]? = some u → cur[o + j]? = some u := by
      intro j u hj
      have := hc j u hj
      rw [Addr.add_none] at this
      simpa [World.cell?, hb] using this
    apply List.ext_getElem?
    intro j
    rw [List.getElem?_take, List.getElem?_drop, Array.getElem?_toList]
    by_cases hj : j < n * size
    · rw [if_pos hj]
      have hjx : j < xs.length := by omega
      rw [hcur j xs[j] (by simp [hjx])]
      simp [hjx]
    · rw [if_neg hj]
      rw [List.getElem?_eq_none (by omega)]

theorem Views.base {W : World} {size n : Nat} {v : Value} {xs : List Value} (hr : RDh size v n xs (hmOf W)) : Views [Base W] size v n xs := by
  refine Views.of_mem 0 rfl (fun h hb => ?_)
  obtain ⟨h1, A, cap, h2, h3, h4, h5⟩ := hr
  refine ⟨h1, A, cap, h2, h3, h4, ?_⟩
  rcases h5 with h5 | ⟨g, o, cur, e, fr, h6, h7, h8⟩
  · exact .inl h5
  · exact .inr ⟨g, o, cur, e, fr, h6, (hb g (heap_lt h7)).trans h7, h8⟩

def ints (l : List Int) : List Value := l.map (Value.int .i64)
def svs (l : List (List UInt8)) : List Value := l.map sv

section
variable {P : Program} {H : Type} {enc : TypeId × Value → H} {W : World} {base b0 : Nat} {r : Reach}

theorem open_i64 {t : TypeId} {v : Value} {d : DataW H} {ps : List MemPlace} {sp : Nat → Bool} {held : Bool} (ht : P.underlying t = some (.int .i64)) (hval : Value.okWide P W r b0 t v) (hd : DataW.Trod enc P W base sp held t v d ps) :
    ∃ n : Int, v = .int .i64 n ∧ -9223372036854775808 ≤ n ∧ n ≤ 9223372036854775807 := by
  obtain ⟨n, rfl, _, _, wn⟩ := open_int ht hval hd
  have : -9223372036854775808 ≤ n ∧ n ≤ 9223372036854775807 := by simpa [Lit.wf, IntKind.min, IntKind.max, IntKind.signed, IntKind.bits] using wn
  exact ⟨n, rfl, this.1, this.2⟩
theorem open_i8 {t : TypeId} {v : Value} {d : DataW H} {ps : List MemPlace} {sp : Nat → Bool} {held : Bool} (ht : P.underlying t = some (.int .i8)) (hval : Value.okWide P W r b0 t v) (hd : DataW.Trod enc P W base sp held t v d ps) :
    ∃ n : Int, v = .int .i8 n ∧ -128 ≤ n ∧ n ≤ 127 := by
  obtain ⟨n, rfl, _, _, wn⟩ := open_int ht hval hd
  have : -128 ≤ n ∧ n ≤ 127 := by simpa [Lit.wf, IntKind.min, IntKind.max, IntKind.signed, IntKind.bits] using wn
  exact ⟨n, rfl, this.1, this.2⟩
theorem u8_of {n : Int} (h : 0 ≤ n ∧ n ≤ 255) : Value.int .u8 n = bv (UInt8.ofNat n.toNat) := by
  simp only [bv]
  rw [UInt8.toNat_ofNat', Nat.mod_eq_of_lt (by omega)]
  congr 1; omega
theorem open_u8 {t : TypeId} {v : Value} {d : DataW H} {ps : List MemPlace} {sp : Nat → Bool} {held : Bool} (ht : P.underlying t = some (.int .u8)) (hval : Value.okWide P W r b0 t v) (hd : DataW.Trod enc P W base sp held t v d ps) : ∃ n : UInt8, v = bv n := by
  obtain ⟨n, rfl, _, _, wn⟩ := open_int ht hval hd
  have : 0 ≤ n ∧ n ≤ 255 := by simpa [Lit.wf, IntKind.min, IntKind.max, IntKind.signed, IntKind.bits] using wn
  exact ⟨_, u8_of this⟩
theorem open_u16 {t : TypeId} {v : Value} {d : DataW H} {ps : List MemPlace} {sp : Nat → Bool} {held : Bool} (ht : P.underlying t = some (.int .u16)) (hval : Value.okWide P W r b0 t v) (hd : DataW.Trod enc P W base sp held t v d ps) : ∃ n : UInt16, v = w16 n := by
  obtain ⟨n, rfl, _, _, wn⟩ := open_int ht hval hd
  have : 0 ≤ n ∧ n ≤ 65535 := by simpa [Lit.wf, IntKind.min, IntKind.max, IntKind.signed, IntKind.bits] using wn
  refine ⟨UInt16.ofNat n.toNat, ?_⟩
  simp only [w16]
  rw [UInt16.toNat_ofNat', Nat.mod_eq_of_lt (by omega)]
  congr 1; omega
theorem open_u32 {t : TypeId} {v : Value} {d : DataW H} {ps : List MemPlace} {sp : Nat → Bool} {held : Bool} (ht : P.underlying t = some (.int .u32)) (hval : Value.okWide P W r b0 t v) (hd : DataW.Trod enc P W base sp held t v d ps) : ∃ n : UInt32, v = w32 n := by
  obtain ⟨n, rfl, _, _, wn⟩ := open_int ht hval hd
  have : 0 ≤ n ∧ n ≤ 4294967295 := by simpa [Lit.wf, IntKind.min, IntKind.max, IntKind.signed, IntKind.bits] using wn
  refine ⟨UInt32.ofNat n.toNat, ?_⟩
  simp only [w32]
  rw [UInt32.toNat_ofNat', Nat.mod_eq_of_lt (by omega)]
  congr 1; omega
theorem open_boolV {t : TypeId} {v : Value} {d : DataW H} {ps : List MemPlace} {sp : Nat → Bool} {held : Bool} (ht : P.underlying t = some .bool) (hval : Value.okWide P W r b0 t v) (hd : DataW.Trod enc P W base sp held t v d ps) : ∃ b : Bool, v = .bool b := by
  obtain ⟨b, rfl, _⟩ := open_bool ht hval hd
  exact ⟨b, rfl⟩
theorem open_text {t : TypeId} {v : Value} {d : DataW H} {ps : List MemPlace} {sp : Nat → Bool} {held : Bool} (ht : P.underlying t = some .string) (hval : Value.okWide P W r b0 t v) (hd : DataW.Trod enc P W base sp held t v d ps) :
    ∃ l : List UInt8, v = sv l ∧ l.length ≤ maxLen := by
  obtain ⟨s, rfl, _, _, hs⟩ := Go.ChangeMaps.open_string ht hval hd
  exact ⟨s.data.toList, rfl, hs⟩

theorem open_intsV {t e : TypeId} {k : IntKind} {v : Value} {d : DataW H} {ps : List MemPlace} (ht : P.underlying t = some (.slice e)) (he : P.underlying e = some (.int k)) (hc : P.cellsOf e = 1) (hval : Value.okWide P W r b0 t v) (hd : DataW.Trod enc P W base (fun _ => true) true t v d ps) :
    ∃ zs : List Int, Views [Base W] 1 v zs.length (zs.map (Value.int k)) ∧ ∀ n ∈ zs, (Lit.int k n).wf = true := by
  obtain ⟨a, len, cap, rfl⟩ := okWide_slice ht hval
  obtain ⟨fuel, hf⟩ := hd
  rcases open_ints ht he hc hf with ⟨hcs, _⟩ | ⟨x, l, c, zs, hcs, _, hl, hm, hz, _, hcell, hwz⟩
  · simp [Value.cells] at hcs
    obtain ⟨rfl, rfl, rfl⟩ := hcs
    exact ⟨[], Views.nil _ _, by simp⟩
  · simp [Value.cells] at hcs
    obtain ⟨rfl, rfl, rfl⟩ := hcs
    simp only [if_true] at hz
    have hlen : (zs.take len).length = len := by rw [List.length_take]; omega
    refine ⟨zs.take len, ?_, fun n hn => hwz n (List.mem_of_mem_take hn)⟩
    rw [hlen]
    refine Views.base (RDh.of_cells (by simp; omega) hl hm (by omega) (fun j u hj => ?_))
    rw [List.getElem?_map] at hj
    cases e1 : (zs.take len)[j]? with
    | none => simp [e1] at hj
    | some n =>
      simp only [e1, Option.map_some, Option.some.injEq] at hj
      subst hj
      have hjl : j < len := by rw [List.getElem?_take] at e1; split at e1 <;> simp_all
      have := hcell j (by omega)
      rw [this]
      rw [List.getElem?_take, if_pos hjl] at e1
      simp [List.getD_eq_getElem?_getD, e1]
theorem open_i64s {t e : TypeId} {v : Value} {d : DataW H} {ps : List MemPlace} (ht : P.underlying t = some (.slice e)) (he : P.underlying e = some (.int .i64)) (hc : P.cellsOf e = 1) (hval : Value.okWide P W r b0 t v) (hd : DataW.Trod enc P W base (fun _ => true) true t v d ps) :
    ∃ l : List Int, Views [Base W] 1 v l.length (ints l) ∧ ∀ n ∈ l, -9223372036854775808 ≤ n ∧ n ≤ 9223372036854775807 := by
  obtain ⟨zs, h1, h2⟩ := open_intsV ht he hc hval hd
  exact ⟨zs, h1, fun n hn => by simpa [Lit.wf, IntKind.min, IntKind.max, IntKind.signed, IntKind.bits] using h2 n hn⟩
theorem open_bytes {t e : TypeId} {v : Value} {d : DataW H} {ps : List MemPlace} (ht : P.underlying t = some (.slice e)) (he : P.underlying e = some (.int .u8)) (hc : P.cellsOf e = 1) (hval : Value.okWide P W r b0 t v) (hd : DataW.Trod enc P W base (fun _ => true) true t v d ps) :
    ∃ l : List UInt8, ViewsB [Base W] v l := by
  obtain ⟨zs, h1, h2⟩ := open_intsV ht he hc hval hd
  refine ⟨zs.map fun n => UInt8.ofNat n.toNat, ?_⟩
  have e1 : bs (zs.map fun n => UInt8.ofNat n.toNat) = zs.map (Value.int .u8) := by
    simp only [bs, List.map_map]
    apply List.map_congr_left
    intro n hn
    have : 0 ≤ n ∧ n ≤ 255 := by simpa [Lit.wf, IntKind.min, IntKind.max, IntKind.signed, IntKind.bits] using h2 n hn
    exact (u8_of this).symm
  unfold ViewsB
  rw [e1, List.length_map]; exact h1
theorem open_texts {t e : TypeId} {v : Value} {d : DataW H} {ps : List MemPlace} (ht : P.underlying t = some (.slice e)) (he : P.underlying e = some .string) (hc : P.cellsOf e = 1) (hval : Value.okWide P W r b0 t v) (hd : DataW.Trod enc P W base (fun _ => true) true t v d ps) :
    ∃ l : List (List UInt8), Views [Base W] 1 v l.length (svs l) := by
  obtain ⟨a, len, cap, rfl⟩ := okWide_slice ht hval
  obtain ⟨fuel, hf⟩ := hd
  rcases open_strings ht he hc hf with ⟨hcs, _⟩ | ⟨x, l, c, ss, hcs, _, hl, hm, hz, _, hcell, hwz⟩
  · simp [Value.cells] at hcs
    obtain ⟨rfl, rfl, rfl⟩ := hcs
    exact ⟨[], Views.nil _ _⟩
  · simp [Value.cells] at hcs
    obtain ⟨rfl, rfl, rfl⟩ := hcs
    simp only [if_true] at hz
    refine ⟨(ss.take len).map fun s => s.data.toList, ?_⟩
    have hlen : ((ss.take len).map fun s => s.data.toList).length = len := by simp; omega
    rw [hlen]
    refine Views.base (RDh.of_cells (by simp [svs]; omega) hl hm (by omega) (fun j u hj => ?_))
    simp only [svs, List.map_map, List.getElem?_map] at hj
    cases e1 : (ss.take len)[j]? with
    | none => simp [e1] at hj
    | some s =>
      simp only [e1, Option.map_some, Option.some.injEq, Function.comp] at hj
      subst hj
      have hjl : j < len := by rw [List.getElem?_take] at e1; split at e1 <;> simp_all
      have := hcell j (by omega)
      rw [this]
      rw [List.getElem?_take, if_pos hjl] at e1
      simp [List.getD_eq_getElem?_getD, e1, sv]
end

/-- the end of a law's walk, as the row's step wants it -/
theorem law_end {P : Program} {f : FuncId} {args : Array Value} {W : World} (hc : Calls P f args W (Ret W (fun _ : Unit => .bool true) (fun _ => [Base W]) (fun _ => True))) :
    Calls P f args W (fun e W' => e = .returned (.bool true) ∧ Below W.heap.size W W') :=
  hc.mono fun e w ⟨_, he, hs, _⟩ => ⟨he, hs.below 0 rfl⟩
theorem svs_get {l : List (List UInt8)} {j : Nat} {x : List UInt8} (h : l[j]? = some x) : (svs l)[j]? = some (sv x) := by simp [svs, h]
theorem ints_get {l : List Int} {j : Nat} {x : Int} (h : l[j]? = some x) : (ints l)[j]? = some (.int .i64 x) := by simp [ints, h]

section
variable {P : Program} {n : Nat} {s w : World} {a : Act} {E : List (Nat × Value)} {L : List HItem} {Q : Exit → Act → World → Prop} {next : Act → World → Prop}
variable {d : Nat} {dst : Option Nat} {ty : TypeId} {pos : String} {aft : Array Edge} {g : Option (Nat × Bool)}
/-- an element of one cell that is read -/
theorem op_indexAddr1 (h : St n s a w E L) {t el : TypeId} {x ix : Operand} {N by_ : Nat} {v : Value} {xs : List Value} {k1 : IntKind} {c : Int} (hx : ev E x = some v) (hi : ev E ix = some (.int k1 c)) (hu : P.underlying t = some (.slice el)) (hs : tsz P el = some (1, by_))
    (hv : Views L 1 v N xs) (j : Nat) (hj : c = (j : Int)) {u : Value} (hlj : xs[j]? = some u)
    (hd : Nat.blt d n = true) (k : ∀ p a w, CellsAt L p [u] → St n s a w ((d, .pointer (some p)) :: E) L → next a w) : (Oper.mk (some d) (.indexAddr t x ix) ty pos aft g).wp P a w next Q := by
  have hlen := hv.length h.2
  have hlt : j < xs.length := (List.getElem?_eq_some_iff.1 hlj).1
  refine op_indexAddr h hx hi hu hs hv j hj (by omega) ?_ hd k
  rw [Nat.mul_one, List.drop_eq_getElem_cons hlt, (List.getElem?_eq_some_iff.1 hlj).2]
  simp
end
end Go.Sl

/- A small library for walks, part M: whole structs stored, places reckoned, tables of the program. No statement is proved here. -/
namespace Go.Sl
section
variable {P : Program} {n : Nat} {s w : World} {a : Act} {E : List (Nat × Value)} {L : List HItem} {Q : Exit → Act → World → Prop} {next : Act → World → Prop}
variable {d : Nat} {dst : Option Nat} {ty : TypeId} {pos : String} {aft : Array Edge} {g : Option (Nat × Bool)}

/-- a struct or an array into a block -/
theorem op_storeAgg (h : St n s a w E L) {t : TypeId} {x y : Operand} {b o by_ : Nat} {us : List Value} (hx : ev E x = some (.pointer (some ⟨b, o, none⟩))) (hy : ev E y = some (.agg us.toArray)) (hs : tsz P t = some (us.length, by_)) (h1 : ∀ u ∈ us, u.oneCell' = true)
    (i : Nat) {vs vs' : Array Value} {T : TypeId} {fr : Nat × Nat} (hi : L[i]? = some (Blk b (.cells vs T fr))) (ho : Nat.ble (o + us.length) vs.size = true) (hfr : NF fr vs.size) (hv : splice vs o us = vs')
    (k : ∀ a w, St n s a w E (L.set i (Blk b (.cells vs' T fr))) → next a w) : (Oper.mk none (.store t x y) ty pos aft g).wp P a w next Q := by
  have hb := h.2.blk i hi
  have ho' : o + us.length ≤ vs.size := Nat.le_of_ble_eq_true ho
  have hil : i < L.length := (List.getElem?_eq_some_iff.1 hi).1
  obtain ⟨w', hr, g1, g2, g3, g4, g5⟩ := run_storeCells_gen P b T fr o us 0 vs w hb (by omega) hfr h1
  rw [Nat.add_zero, hv] at g4
  refine op_run_skip h (w' := w') ?_ ?_ k
  · have hc : (Value.agg us.toArray).cells = us.toArray := rfl
    simp [execOp, h.1.ev hx, h.1.ev hy, Instr.storeAt, Instr.sureAddr, storeVar, hc, run_sizeOf hs, hr]
  · have hs2 := (h.2.front i hi)
    have := Sat.turn (o' := .cells vs' T fr) hs2 (w' := w') g1 g2 g3 g4 g5
    exact ⟨this.1, this.2.1, this.2.2.1, sepL_set hil this.2.2.2⟩

/-- the place of an element of a slice whose form is known -/
theorem r_idx (h : St n s a w E L) {t el : TypeId} {x ix : Operand} {v : Value} {b o N cap size by_ : Nat} {k1 : IntKind} {c : Int} (hx : ev E x = some v) (hi : ev E ix = some (.int k1 c)) (hu : P.underlying t = some (.slice el)) (hs : tsz P el = some (size, by_))
    (hv : v = .slice (some ⟨b, o, none⟩) N cap) (j : Nat) (hj : c = (j : Int)) (hlt : j < N) : (execOp a.eval ⟨dst, .indexAddr t x ix, ty, pos, aft, g⟩).run P w = .ok (.value (.pointer (some ⟨b, o + j * size, none⟩))) w := by
  subst hj; subst hv
  have h2 : (0 : Int) ≤ (j : Int) ∧ (j : Int) < (N : Int) := by omega
  simp [execOp, h.1.ev hx, h.1.ev hi, Instr.indexAt, asIntOf, run_underlying hu, h2, hlt, run_sizeOf hs, Addr.add_none]

theorem CellsAt.base {W : World} {b : Nat} {us : List Value} (hb : b < W.heap.size) (hc : ∀ j u, us[j]? = some u → W.cell? ⟨b, j, none⟩ = some u) (hne : us ≠ []) : CellsAt [Base W] ⟨b, 0, none⟩ us := by
  refine ⟨rfl, fun h hs => ?_⟩
  obtain ⟨D, hI, _⟩ := sepL_front [Base W] 0 _ h rfl hs
  obtain ⟨u, us', rfl⟩ : ∃ u us', us = u :: us' := by cases us with | nil => exact absurd rfl hne | cons u us' => exact ⟨u, us', rfl⟩
  have h0 := hc 0 u rfl
  obtain ⟨cur, e, fr, hh⟩ : ∃ cur e fr, W.heap[b]? = some (.cells cur e fr) := by
    simp only [World.cell?] at h0
    split at h0
    · rename_i c e fr hh; exact ⟨c, e, fr, hh⟩
    · cases h0
  refine ⟨cur, e, fr, ?_, fun j v hj => ?_⟩
  · have h3 := hI b hb
    exact restr_le b _ (h3.trans hh)
  · have := hc j v hj
    simpa [World.cell?, hh] using this
theorem CellsAt.of_drop {p : Addr} {us : List Value} (k : Nat) (hc : CellsAt (L.drop k) p us) : CellsAt L p us :=
  ⟨hc.1, fun h hs => hc.2 h (sepL_drop k L h hs)⟩
/-- a literal's bytes, as bytes: the row gets its mark behind its last cell -/
theorem op_lit (h : St n s a w E L) {t el : TypeId} {x : Operand} {b N c : Nat} {C : Array Value} {T : TypeId} (hx : ev E x = some (.slice (some ⟨b, 0, none⟩) N c)) (ht : P.underlying t = some (.slice el)) (he : P.underlying el = some (.int .u8))
    (i : Nat) (hi : L[i]? = some (Blk b (.cells C T))) (hd : Nat.blt d n = true)
    (k : ∀ a w, St n s a w ((d, .slice (some ⟨b, 0, none⟩) N c) :: E) (L.set i (Blk b (.cells C T (C.size, C.size + 1)))) → next a w) : (Oper.mk (some d) (.convert t t x) ty pos aft g).wp P a w next Q := by
  have hb := h.2.blk i hi
  have hil : i < L.length := (List.getElem?_eq_some_iff.1 hi).1
  have hsh : w.shape? b = some (T, C.size) := by unfold World.shape?; rw [hb]
  have hrun : (convert t t (.slice (some ⟨b, 0, none⟩) N c)).run P w = .ok (.slice (some ⟨b, 0, none⟩) N c) (w.freeze ⟨b, C.size, none⟩ 1) := by
    simp [convert, run_underlying ht, run_underlying he, markStringish, hsh]
  refine op_run h (v := .slice (some ⟨b, 0, none⟩) N c) (w' := w.freeze ⟨b, C.size, none⟩ 1) (by simp [execOp, h.1.ev hx, hrun]) hd ?_ (k · ·)
  have e1 : w.freeze ⟨b, C.size, none⟩ 1 = { w with heap := w.heap.modify b fun
      | .cells c elem (lo, hi) => .cells c elem (if lo == hi then (C.size, C.size + 1) else (min lo C.size, max hi (C.size + 1)))
      | o => o } := by unfold World.freeze; rw [if_neg (by decide)]; rfl
  have hs2 := h.2.front i hi
  have hb2 : (w.freeze ⟨b, C.size, none⟩ 1).heap[b]? = some (.cells C T (C.size, C.size + 1)) := by
    rw [e1]; simp [Array.getElem?_modify, hb]
  have := Sat.turn (o' := .cells C T (C.size, C.size + 1)) hs2 (w' := w.freeze ⟨b, C.size, none⟩ 1) (by rw [e1]) (by rw [e1]) (by rw [e1]) hb2 (fun k hk => by rw [e1]; simp [Array.getElem?_modify, Ne.symm hk])
  exact ⟨this.1, this.2.1, this.2.2.1, sepL_set hil this.2.2.2⟩
theorem NF.past (k : Nat) : NF (k, k + 1) k := by intro j hj h; omega

/-- a cell of a table of the program -/
theorem r_loadG (h : St n s a w E L) {t : TypeId} {x : Operand} {b q : Nat} {us : List Value} {dd : TypeDesc} (hx : ev E x = some (.pointer (some ⟨b, q, none⟩))) (hu : P.underlying t = some dd) (hf : TypeDesc.flat dd = true)
    (hc : CellsAt L ⟨b, 0, none⟩ us) (j : Nat) (hq : q = j) {v : Value} (hj : us[j]? = some v)
    : (execOp a.eval ⟨dst, .load t x, ty, pos, aft, g⟩).run P w = .ok (.value (v)) w :=
  r_loadC h hx hu hf hc j (.inr (by simp [hq])) hj
end

/-! ### Tables that the row lists -/
theorem laid_tab {P : Program} {W : World} {name : String} {k : IntKind} {zs : List Int} {g : Nat} {t e : TypeId} {n : Nat}
    (hg : P.globalNamed name = some g) (hty : (P.globals[g]?).map (·.type) = some t) (ht : P.underlying t = some (.array n e)) (he : P.underlying e = some (.int k)) (hce : P.cellsOf e = 1) (hct : P.cellsOf t = n) :
    ∀ {lst : List (String × DataW Unit)} {ps : List MemPlace} (i : Nat), DataW.LaidVars P W lst ps → lst[i]? = some (name, Lib.tabData k zs) → Lib.TabIs P W name k zs
  | [], ps, i, _, hi => by simp at hi
  | (n', d') :: rest, ps, 0, h, hi => by
    obtain ⟨g', t', cs, fuel, p, q, hg', ht', hvar, hd, _, _⟩ := h
    simp only [List.getElem?_cons_zero, Option.some.injEq, Prod.mk.injEq] at hi
    obtain ⟨rfl, rfl⟩ := hi
    obtain rfl := Option.some.inj (hg.symm.trans hg')
    obtain rfl := Option.some.inj (hty.symm.trans ht')
    unfold Lib.TabIs
    rw [hvar, ← Lib.cells_of_tab ht he hce hct hd]
  | (n', d') :: rest, ps, i + 1, h, hi => by
    obtain ⟨g', t', cs, fuel, p, q, _, _, _, _, hr, _⟩ := h
    exact laid_tab hg hty ht he hce hct i hr (by simpa using hi)
theorem laid_at {P : Program} {W : World} {name : String} {k : IntKind} {zs : List Int} {g : Nat} {t e : TypeId} {n : Nat} {lst : List (String × DataW Unit)} {us : List Value}
    (hg : P.globalNamed name = some g) (hty : (P.globals[g]?).map (·.type) = some t) (ht : P.underlying t = some (.array n e)) (he : P.underlying e = some (.int k)) (hce : P.cellsOf e = 1) (hct : P.cellsOf t = n)
    (h : laidMet P lst W) (i : Nat) (hi : lst[i]? = some (name, Lib.tabData k zs)) (hu : zs.map (Value.int k) = us) (hne : us ≠ []) : CellsAt [Base W] ⟨g, 0, none⟩ us := by
  obtain ⟨ps, hl, _⟩ := h
  have hT := laid_tab hg hty ht he hce hct i hl hi
  have hc : ∀ j u, us[j]? = some u → W.cell? ⟨g, j, none⟩ = some u := by
    intro j u hj
    have := World.var?_cell hg hT j
    rw [this, ← hj, ← hu]; simp
  refine CellsAt.base ?_ hc hne
  obtain ⟨u, us', rfl⟩ : ∃ u us', us = u :: us' := by cases us with | nil => exact absurd rfl hne | cons u us' => exact ⟨u, us', rfl⟩
  have := hc 0 u rfl
  by_cases hb : g < W.heap.size
  · exact hb
  · simp [World.cell?, Array.getElem?_eq_none (Nat.le_of_not_lt hb)] at this
end Go.Sl

/- A small library for walks, part N: rows of bytes that are made, copied into, and written. No statement is proved here. -/
namespace Go.Sl
section
variable {P : Program} {n : Nat} {s w : World} {a : Act} {E : List (Nat × Value)} {L : List HItem} {Q : Exit → Act → World → Prop} {next : Act → World → Prop}
variable {d : Nat} {dst : Option Nat} {ty : TypeId} {pos : String} {aft : Array Edge} {g : Option (Nat × Bool)}

theorem ViewsB.cell {v : Value} {l : List UInt8} (hv : ViewsB L v l) {s w : World} (hs : Sat s w L) {j : Nat} {u : UInt8} (hu : l[j]? = some u) :
    ∃ g o cap, v = .slice (some ⟨g, o, none⟩) l.length cap ∧ CellsAt L ⟨g, o + j * 1, none⟩ [bv u] := by
  have hlt : j < l.length := (List.getElem?_eq_some_iff.1 hu).1
  refine Views.cell hv hs hlt ?_
  have : (bs l)[j]? = some (bv u) := by simp [bs, hu]
  rw [Nat.mul_one, List.drop_eq_getElem_cons (by simpa [bs] using hlt), (List.getElem?_eq_some_iff.1 this).2]
  simp
theorem Views.cell1 {v : Value} {N : Nat} {xs : List Value} (hv : Views L 1 v N xs) {s w : World} (hs : Sat s w L) {j : Nat} {u : Value} (hu : xs[j]? = some u) :
    ∃ g o cap, v = .slice (some ⟨g, o, none⟩) N cap ∧ CellsAt L ⟨g, o + j * 1, none⟩ [u] := by
  have hlen := hv.length hs
  have hlt : j < xs.length := (List.getElem?_eq_some_iff.1 hu).1
  refine Views.cell hv hs (by omega) ?_
  rw [Nat.mul_one, List.drop_eq_getElem_cons hlt, (List.getElem?_eq_some_iff.1 hu).2]
  simp
theorem op_makeSliceb (h : St n s a w E L) {t el : TypeId} {x y : Operand} {k1 k2 : IntKind} {c1 c2 : Int} {by_ : Nat} (hu : P.underlying t = some (.slice el)) (hs : tsz P el = some (1, by_)) (hz : tzero P el = some (.int .u8 0)) (hx : ev E x = some (.int k1 c1)) (hy : ev E y = some (.int k2 c2))
    (N M : Nat) (hN : c1 = (N : Int)) (hM : c2 = (M : Int)) (hNM : N ≤ M) (hM2 : M ≤ 4294967296) (hby : Nat.ble by_ 4096 = true) (hd : Nat.blt d n = true)
    (k : ∀ v a w, St n s a w ((d, v) :: E) (OwnB v (List.replicate N 0) :: L) → next a w) :
    (Oper.mk (some d) (.makeSlice t x y) ty pos aft g).wp P a w next Q := by
  refine op_makeSlice h hu hs hz hx hy N M hN hM hNM hM2 hby rfl hd (fun v a w h => k v a w ?_)
  have e : Own 1 v N ((List.range (N * 1)).map fun j => (Value.int .u8 0).cells[j % (Value.int .u8 0).cells.size]!) = OwnB v (List.replicate N 0) := by
    refine OwnB_eq ?_ (by simp)
    have hc : (Value.int .u8 0).cells = #[Value.int .u8 0] := rfl
    rw [hc]
    apply List.ext_getElem?
    intro i
    simp only [bs, Nat.mul_one, List.getElem?_map, List.getElem?_range, List.getElem?_replicate]
    by_cases hi : i < N
    · simp [hi, bv, Nat.mod_one]
    · simp [hi]
  rw [e] at h; exact h
/-- bytes copied over the first of one's own -/
theorem op_copyb (h : St n s a w E L) {t t2 el : TypeId} {x y : Operand} {by_ : Nat} {v vx : Value} {l m : List UInt8} (hx : ev E x = some v) (hy : ev E y = some vx) (hu : P.underlying t = some (.slice el)) (hs : tsz P el = some (1, by_)) (i : Nat) (hi : L[i]? = some (OwnB v l))
    (hm : ViewsB L vx m) (hd : Nat.blt d n = true)
    (k : ∀ a w, St n s a w ((d, .int .i64 ((min m.length l.length : Nat) : Int)) :: E) (L.set i (OwnB v (m.take l.length ++ l.drop m.length))) → next a w) :
    (Oper.mk (some d) (.call { callee := .builtin .copy, args := #[x, y], argTypes := #[t, t2] }) ty pos aft g).wp P a w next Q := by
  refine op_copy (m := m.length) (news := bs m) h hx hy hu hs i hi ?_ ?_ (by simp [bs]) (bs_one m) (fun a w h => k a w ?_) (fun d' e => by cases e; exact hd)
  · intro w'
    obtain ⟨A, cap, rfl, _⟩ := Views.shape hm h.2
    rfl
  · intro s' w' hs'
    exact RDh.cells P (hm _ hs'.2.2.2) _ (Nat.min_le_left _ _)
  · have e : Own 1 v l.length ((bs m).take (min m.length l.length * 1) ++ (bs l).drop (min m.length l.length * 1)) = OwnB v (m.take l.length ++ l.drop m.length) := by
      refine OwnB_eq ?_ (by simp only [List.length_append, List.length_take, List.length_drop]; omega)
      rw [Nat.mul_one, bs_take, bs_drop, bs_append]
      by_cases hml : m.length ≤ l.length
      · rw [Nat.min_eq_left hml, List.take_length, List.take_of_length_le hml]
      · rw [Nat.min_eq_right (by omega), List.drop_length, List.drop_eq_nil_iff.2 (by omega)]
    rw [e] at h; exact h
/-- a byte of one's own is written -/
theorem op_storeb (h : St n s a w E L) {t : TypeId} {x y : Operand} {b o q N cap by_ : Nat} {u : UInt8} {v : Value} {l : List UInt8} (hx : ev E x = some (.pointer (some ⟨b, q, none⟩))) (hy : ev E y = some (bv u)) (hs : tsz P t = some (1, by_))
    (it : Nat) (hit : L[it]? = some (OwnB v l)) (hv : v = .slice (some ⟨b, o, none⟩) N cap) (j : Nat) (hq : q = o + j) (hj : j < l.length)
    (k : ∀ a w, St n s a w E (L.set it (OwnB v (l.set j u))) → next a w) : (Oper.mk none (.store t x y) ty pos aft g).wp P a w next Q := by
  have hN : N = l.length := by
    obtain ⟨A, cap', e, _⟩ := Views.shape (ViewsB.own it hit) h.2
    rw [hv] at e; cases e; rfl
  subst hN
  subst hv
  refine op_storeOwn h hx hy hs rfl it hit j hq (by omega) (fun a w h => k a w ?_)
  have e : Own 1 (.slice (some ⟨b, o, none⟩) l.length cap) l.length ((bs l).set j (bv u)) = OwnB (.slice (some ⟨b, o, none⟩) l.length cap) (l.set j u) :=
    OwnB_eq (by simp [bs, List.map_set]) (by simp)
  rw [e] at h; exact h
/-- a guarded call that is passed by, in the shape of one that isn't -/
theorem wvsx {ops : Array Oper} {rest : List Oper} {op : Op} (h : St n s a w E L) {j : Nat} {b : Bool} (hj : gvNot ops E j b = true) (hd : Nat.blt d n = true)
    (k : ∀ (_ : Unit) a w, True → St n s a w ((d, undef) :: E) L → wpList P ops Q rest a w) : wpList P ops Q (Oper.mk (some d) op ty pos aft (some (j, b)) :: rest) a w :=
  wvs h hj hd fun a w h => k () a w trivial h
end
end Go.Sl

/- A small library for walks, part O: arrays of numbers in blocks. No statement is proved here. -/
namespace Go.Sl
/-- an array's cells -/
def arr32 (l : List UInt32) : Array Value := (l.map w32).toArray
def arr8 (l : List UInt8) : Array Value := (l.map bv).toArray
theorem arr32_size (l : List UInt32) : (arr32 l).size = l.length := by simp [arr32]
theorem arr8_size (l : List UInt8) : (arr8 l).size = l.length := by simp [arr8]
theorem arr32_get {l : List UInt32} {j : Nat} {x : UInt32} (h : l[j]? = some x) : (arr32 l)[0 + j * 1]? = some (w32 x) := by simp [arr32, h]
theorem arr8_get {l : List UInt8} {j : Nat} {x : UInt8} (h : l[j]? = some x) : (arr8 l)[0 + j * 1]? = some (bv x) := by simp [arr8, h]
theorem arr32_set (l : List UInt32) (j : Nat) (x : UInt32) : (arr32 l).setIfInBounds (0 + j * 1) (w32 x) = arr32 (l.set j x) := by simp [arr32, List.map_set]
theorem arr8_set (l : List UInt8) (j : Nat) (x : UInt8) : (arr8 l).setIfInBounds (0 + j * 1) (bv x) = arr8 (l.set j x) := by simp [arr8, List.map_set]
theorem splice_all (vs : Array Value) (us : List Value) (h : vs.size = us.length) : splice vs 0 us = us.toArray := by
  unfold splice
  rw [List.take_zero, List.nil_append, Nat.zero_add, List.drop_eq_nil_iff.2 (by simp [h]), List.append_nil]
theorem unfrozen_zero (o : Nat) : unfrozen o (0, 0) = true := by
  unfold unfrozen
  have : Nat.blt o 0 = false := by cases h : Nat.blt o 0; rfl; exact absurd (Nat.le_of_ble_eq_true h) (by omega)
  simp [this]
theorem arr_fill {α : Type} (D : List α) (z u : α) (i : Nat) (h : D[i]? = some u) : (D.take i ++ List.replicate (D.length - i) z).set i u = D.take (i + 1) ++ List.replicate (D.length - (i + 1)) z := by
  have hi : i < D.length := (List.getElem?_eq_some_iff.1 h).1
  have hl : (D.take i).length = i := by rw [List.length_take]; omega
  rw [List.set_append_right _ _ (by omega), hl, Nat.sub_self, show D.length - i = (D.length - (i + 1)) + 1 by omega, List.replicate_succ, List.set_cons_zero, List.take_add_one, h]
  simp
/-- a block of which the first cells are known -/
def Pre32P (b : Nat) (l : List UInt32) (h : HM) : Prop := ∃ (cur : Array Value) (T : TypeId) (fr : Nat × Nat), h b = some (.cells cur T fr) ∧ ∀ (j : Nat) (u : UInt32), l[j]? = some u → cur[j]? = some (w32 u)
def Pre32 (b : Nat) (l : List UInt32) : HItem := ⟨Pre32P b l, fun h h' hl hb => by
  obtain ⟨cur, T, fr, e, hc⟩ := hb
  exact ⟨cur, T, fr, hl _ _ e, hc⟩⟩
theorem Sat.pre32 {s w : World} {b : Nat} {l l' : List UInt32} {T : TypeId} {G : List HItem} (hs : Sat s w (Blk b (.cells (arr32 l') T) :: G)) (hl : ∀ (j : Nat) (u : UInt32), l[j]? = some u → l'[j]? = some u) : Sat s w (Pre32 b l :: G) :=
  Sat.map (J := Pre32 b l) hs 0 rfl (fun h hb => ⟨arr32 l', T, _, hb, fun j u hj => by simp [arr32, hl j u hj]⟩)
theorem CellsAt.pre32 {L : List HItem} {b : Nat} {l : List UInt32} (i : Nat) (hi : L[i]? = some (Pre32 b l)) : CellsAt L ⟨b, 0, none⟩ (l.map w32) :=
  ⟨rfl, fun h hs => by
    obtain ⟨D, hp, _⟩ := sepL_front L i _ h hi hs
    obtain ⟨cur, T, fr, e, hc⟩ : Pre32P b l (restr D h) := hp
    refine ⟨cur, T, fr, restr_le _ _ e, fun j u hj => ?_⟩
    simp only [List.getElem?_map, Option.map_eq_some_iff] at hj
    obtain ⟨x, hx, rfl⟩ := hj
    simpa using hc j x hx⟩
section
variable {P : Program} {n : Nat} {s w : World} {a : Act} {E : List (Nat × Value)} {L : List HItem} {Q : Exit → Act → World → Prop} {next : Act → World → Prop}
variable {d : Nat} {dst : Option Nat} {ty : TypeId} {pos : String} {aft : Array Edge} {g : Option (Nat × Bool)}

theorem r_load32 (h : St n s a w E L) {t : TypeId} {x : Operand} {b j : Nat} {dd : TypeDesc} (hx : ev E x = some (.pointer (some ⟨b, 0 + j * 1, none⟩))) (hu : P.underlying t = some dd) (hf : TypeDesc.flat dd = true)
    (i : Nat) {l : List UInt32} {T : TypeId} {fr : Nat × Nat} (hi : L[i]? = some (Blk b (.cells (arr32 l) T fr))) {u : UInt32} (hu' : l[j]? = some u) : (execOp a.eval ⟨dst, .load t x, ty, pos, aft, g⟩).run P w = .ok (.value (w32 u)) w :=
  r_load h hx hu hf i hi (arr32_get hu')
theorem r_load8 (h : St n s a w E L) {t : TypeId} {x : Operand} {b j : Nat} {dd : TypeDesc} (hx : ev E x = some (.pointer (some ⟨b, 0 + j * 1, none⟩))) (hu : P.underlying t = some dd) (hf : TypeDesc.flat dd = true)
    (i : Nat) {l : List UInt8} {T : TypeId} {fr : Nat × Nat} (hi : L[i]? = some (Blk b (.cells (arr8 l) T fr))) {u : UInt8} (hu' : l[j]? = some u) : (execOp a.eval ⟨dst, .load t x, ty, pos, aft, g⟩).run P w = .ok (.value (bv u)) w :=
  r_load h hx hu hf i hi (arr8_get hu')
theorem op_store32 (h : St n s a w E L) {t : TypeId} {x y : Operand} {b j by_ : Nat} {u : UInt32} (hx : ev E x = some (.pointer (some ⟨b, 0 + j * 1, none⟩))) (hy : ev E y = some (w32 u)) (hs : tsz P t = some (1, by_))
    (i : Nat) {l : List UInt32} {T : TypeId} (hi : L[i]? = some (Blk b (.cells (arr32 l) T))) (hj : j < l.length)
    (k : ∀ a w, St n s a w E (L.set i (Blk b (.cells (arr32 (l.set j u)) T))) → next a w) : (Oper.mk none (.store t x y) ty pos aft g).wp P a w next Q := by
  refine op_store h hx hy hs rfl i hi (Nat.ble_eq_true_of_le (by rw [arr32_size]; omega)) (unfrozen_zero _) (fun a w h => k a w ?_)
  rw [arr32_set] at h; exact h
theorem op_store8 (h : St n s a w E L) {t : TypeId} {x y : Operand} {b j by_ : Nat} {u : UInt8} (hx : ev E x = some (.pointer (some ⟨b, 0 + j * 1, none⟩))) (hy : ev E y = some (bv u)) (hs : tsz P t = some (1, by_))
    (i : Nat) {l : List UInt8} {T : TypeId} (hi : L[i]? = some (Blk b (.cells (arr8 l) T))) (hj : j < l.length)
    (k : ∀ a w, St n s a w E (L.set i (Blk b (.cells (arr8 (l.set j u)) T))) → next a w) : (Oper.mk none (.store t x y) ty pos aft g).wp P a w next Q := by
  refine op_store h hx hy hs rfl i hi (Nat.ble_eq_true_of_le (by rw [arr8_size]; omega)) (unfrozen_zero _) (fun a w h => k a w ?_)
  rw [arr8_set] at h; exact h
/-- a whole array out of its block, and into it -/
theorem r_loadA32 (h : St n s a w E L) {t : TypeId} {x : Operand} {b sz by_ : Nat} {dd : TypeDesc} (hx : ev E x = some (.pointer (some ⟨b, 0, none⟩))) (hu : P.underlying t = some dd) (hf : TypeDesc.flat dd = false) (hs : tsz P t = some (sz, by_))
    (i : Nat) {l : List UInt32} {T : TypeId} {fr : Nat × Nat} (hi : L[i]? = some (Blk b (.cells (arr32 l) T fr))) (hl : l.length = sz) : (execOp a.eval ⟨dst, .load t x, ty, pos, aft, g⟩).run P w = .ok (.value (.agg (arr32 l))) w :=
  r_loadAgg h hx hu hf hs i hi (us := l.map w32) (by rw [List.drop_zero, List.take_of_length_le (by simp [arr32, hl])]; rfl) (by simpa using hl)
theorem r_loadA8 (h : St n s a w E L) {t : TypeId} {x : Operand} {b sz by_ : Nat} {dd : TypeDesc} (hx : ev E x = some (.pointer (some ⟨b, 0, none⟩))) (hu : P.underlying t = some dd) (hf : TypeDesc.flat dd = false) (hs : tsz P t = some (sz, by_))
    (i : Nat) {l : List UInt8} {T : TypeId} {fr : Nat × Nat} (hi : L[i]? = some (Blk b (.cells (arr8 l) T fr))) (hl : l.length = sz) : (execOp a.eval ⟨dst, .load t x, ty, pos, aft, g⟩).run P w = .ok (.value (.agg (arr8 l))) w :=
  r_loadAgg h hx hu hf hs i hi (us := l.map bv) (by rw [List.drop_zero, List.take_of_length_le (by simp [arr8, hl])]; rfl) (by simpa using hl)
theorem op_storeA32 (h : St n s a w E L) {t : TypeId} {x y : Operand} {b sz by_ : Nat} {l : List UInt32} (hx : ev E x = some (.pointer (some ⟨b, 0, none⟩))) (hy : ev E y = some (.agg (arr32 l))) (hs : tsz P t = some (sz, by_)) (hl : l.length = sz)
    (i : Nat) {vs : Array Value} {T : TypeId} (hi : L[i]? = some (Blk b (.cells vs T))) (hv : vs.size = sz)
    (k : ∀ a w, St n s a w E (L.set i (Blk b (.cells (arr32 l) T))) → next a w) : (Oper.mk none (.store t x y) ty pos aft g).wp P a w next Q := by
  subst hl
  refine op_storeAgg (us := l.map w32) (vs' := arr32 l) h hx hy (by simpa using hs) ?_ i hi (Nat.ble_eq_true_of_le (by simp [hv])) (NF.zero _) (splice_all _ _ (by simp [hv])) k
  intro u hu
  obtain ⟨y, _, rfl⟩ := List.mem_map.1 hu
  rfl
theorem op_storeA8 (h : St n s a w E L) {t : TypeId} {x y : Operand} {b sz by_ : Nat} {l : List UInt8} (hx : ev E x = some (.pointer (some ⟨b, 0, none⟩))) (hy : ev E y = some (.agg (arr8 l))) (hs : tsz P t = some (sz, by_)) (hl : l.length = sz)
    (i : Nat) {vs : Array Value} {T : TypeId} (hi : L[i]? = some (Blk b (.cells vs T))) (hv : vs.size = sz)
    (k : ∀ a w, St n s a w E (L.set i (Blk b (.cells (arr8 l) T))) → next a w) : (Oper.mk none (.store t x y) ty pos aft g).wp P a w next Q := by
  subst hl
  refine op_storeAgg (us := l.map bv) (vs' := arr8 l) h hx hy (by simpa using hs) ?_ i hi (Nat.ble_eq_true_of_le (by simp [hv])) (NF.zero _) (splice_all _ _ (by simp [hv])) k
  intro u hu
  obtain ⟨y, _, rfl⟩ := List.mem_map.1 hu
  rfl
/-- a result that lies in a block of its own -/
theorem run_loadVarA (h : St n s a w E L) {t : TypeId} {b sz by_ : Nat} {dd : TypeDesc} (hu : P.underlying t = some dd) (hf : TypeDesc.flat dd = false) (hs : tsz P t = some (sz, by_))
    (i : Nat) {vs : Array Value} {T : TypeId} {fr : Nat × Nat} (hi : L[i]? = some (Blk b (.cells vs T fr))) (hl : vs.size = sz) : (loadVar t ⟨b, 0, none⟩).run P w = .ok (.agg vs) w := by
  have hb := h.2.blk i hi
  have hc : (loadCells ⟨b, 0, none⟩ sz).run P w = .ok vs.toList.toArray w := by
    rw [← hl, ← Array.length_toList]
    refine run_loadCells_blk P w (fun j v hj => ?_)
    simp only [World.cell?, hb]
    simpa using hj
  simp [loadVar, run_isAgg hu, hf, run_sizeOf hs, hc]
theorem retc {fn : Func} {R : Ending → World → Prop} (h : St n s a w E L) {q : Nat} {t : TypeId} {b sz by_ : Nat} {dd : TypeDesc} (hr : fn.results = #[.cell q t]) (hq : lk E q = some (.pointer (some ⟨b, 0, none⟩))) (hu : P.underlying t = some dd) (hf : TypeDesc.flat dd = false) (hs : tsz P t = some (sz, by_))
    (i : Nat) {vs : Array Value} {T : TypeId} {fr : Nat × Nat} (hi : L[i]? = some (Blk b (.cells vs T fr))) (hl : vs.size = sz) (hR : R (.returned (.agg vs)) w) : bodyPost P fn R .ret a w := by
  have h1 := h.1.2.2 q _ hq
  refine bodyPost_ret (v := .agg vs) ?_ h.1.2.1 hR
  simp [results, hr, h1, asAddr, run_loadVarA h hu hf hs i hi hl]
theorem retct {fn : Func} {R : Ending → World → Prop} (h : St n s a w E L) {q u : Nat} {t : TypeId} {b sz by_ : Nat} {dd : TypeDesc} {v2 : Value} (hr : fn.results = #[.cell q t, .tmp u]) (hq : lk E q = some (.pointer (some ⟨b, 0, none⟩))) (hv2 : lk E u = some v2) (hu : P.underlying t = some dd) (hf : TypeDesc.flat dd = false) (hs : tsz P t = some (sz, by_))
    (i : Nat) {vs : Array Value} {T : TypeId} {fr : Nat × Nat} (hi : L[i]? = some (Blk b (.cells vs T fr))) (hl : vs.size = sz) (hR : R (.returned (.tuple #[.agg vs, v2])) w) : bodyPost P fn R .ret a w := by
  have h1 := h.1.2.2 q _ hq
  have h2 := h.1.2.2 u _ hv2
  refine bodyPost_ret (v := .tuple #[.agg vs, v2]) ?_ h.1.2.1 hR
  simp [results, hr, h1, h2, asAddr, run_loadVarA h hu hf hs i hi hl]
end
theorem arr32_zero (n : Nat) : arr32 (List.replicate n 0) = Array.replicate n (.int .u32 0) := by simp [arr32, w32]
theorem arr8_zero (n : Nat) : arr8 (List.replicate n 0) = Array.replicate n (.int .u8 0) := by simp [arr8, bv]
theorem arr_over {α : Type} (D H : List α) (u : α) (i : Nat) (h : D[i]? = some u) (hl : H.length = D.length) : (D.take i ++ H.drop i).set i u = D.take (i + 1) ++ H.drop (i + 1) := by
  have hi : i < D.length := (List.getElem?_eq_some_iff.1 h).1
  have hl2 : (D.take i).length = i := by rw [List.length_take]; omega
  rw [List.set_append_right _ _ (by omega), hl2, Nat.sub_self, List.drop_eq_getElem_cons (by omega : i < H.length), List.set_cons_zero, List.take_add_one, h]
  simp
theorem fill_one (cells : Array Value) (i : Nat) (v : Value) (hv : v.cells = #[v]) (hi : i < cells.size) (rest : List (Nat × Value)) :
    Instr.fill (fun i => some (i * 1, 1)) cells ((i, v) :: rest) = Instr.fill (fun i => some (i * 1, 1)) (cells.setIfInBounds i v) rest := by
  have h : ¬ (1 ≠ 1 ∨ i * 1 + 1 > cells.size) := by omega
  rw [Instr.fill]
  simp only [hv]
  have hs : (#[v] : Array Value).size = 1 := rfl
  rw [hs]
  rw [if_neg (by simp; omega)]
  simp
theorem fill_words (x0 x1 x2 x3 x4 x5 x6 x7 : UInt32) (a0 a1 a2 a3 a4 a5 a6 a7 : Value) :
    Instr.fill (fun i => some (i * 1, 1)) #[a0, a1, a2, a3, a4, a5, a6, a7] [(0, w32 x0), (1, w32 x1), (2, w32 x2), (3, w32 x3), (4, w32 x4), (5, w32 x5), (6, w32 x6), (7, w32 x7)] = some (arr32 [x0, x1, x2, x3, x4, x5, x6, x7]) := by
  rw [fill_one _ _ _ rfl (by simp), fill_one _ _ _ rfl (by simp), fill_one _ _ _ rfl (by simp), fill_one _ _ _ rfl (by simp), fill_one _ _ _ rfl (by simp), fill_one _ _ _ rfl (by simp), fill_one _ _ _ rfl (by simp), fill_one _ _ _ rfl (by simp), Instr.fill]
  simp [arr32]
end Go.Sl

/- A small library for walks, part P: elements by reckoned places, guards that are kept, arrays by value. No statement is proved here. -/
namespace Go.Sl

/-! ### Whole numbers that are none below 0, by their form -/
class NatOf (c : Int) (j : outParam Nat) where
instance natOf_cast (j : Nat) : NatOf (j : Int) j := ⟨⟩
instance natOf_0 : NatOf 0 0 := ⟨⟩
instance natOf_1 : NatOf 1 1 := ⟨⟩
instance natOf_2 : NatOf 2 2 := ⟨⟩
instance natOf_3 : NatOf 3 3 := ⟨⟩
instance natOf_4 : NatOf 4 4 := ⟨⟩
instance natOf_5 : NatOf 5 5 := ⟨⟩
instance natOf_6 : NatOf 6 6 := ⟨⟩
instance natOf_7 : NatOf 7 7 := ⟨⟩
instance natOf_8 : NatOf 8 8 := ⟨⟩
instance natOf_9 : NatOf 9 9 := ⟨⟩
instance natOf_10 : NatOf 10 10 := ⟨⟩
instance natOf_11 : NatOf 11 11 := ⟨⟩
instance natOf_12 : NatOf 12 12 := ⟨⟩
instance natOf_13 : NatOf 13 13 := ⟨⟩
instance natOf_14 : NatOf 14 14 := ⟨⟩
instance natOf_15 : NatOf 15 15 := ⟨⟩
instance natOf_16 : NatOf 16 16 := ⟨⟩
instance natOf_17 : NatOf 17 17 := ⟨⟩
instance natOf_18 : NatOf 18 18 := ⟨⟩
instance natOf_19 : NatOf 19 19 := ⟨⟩
instance natOf_20 : NatOf 20 20 := ⟨⟩
instance natOf_21 : NatOf 21 21 := ⟨⟩
instance natOf_22 : NatOf 22 22 := ⟨⟩
instance natOf_23 : NatOf 23 23 := ⟨⟩
instance natOf_24 : NatOf 24 24 := ⟨⟩
instance natOf_25 : NatOf 25 25 := ⟨⟩
instance natOf_26 : NatOf 26 26 := ⟨⟩
instance natOf_27 : NatOf 27 27 := ⟨⟩
instance natOf_28 : NatOf 28 28 := ⟨⟩
instance natOf_29 : NatOf 29 29 := ⟨⟩
instance natOf_30 : NatOf 30 30 := ⟨⟩
instance natOf_31 : NatOf 31 31 := ⟨⟩
instance natOf_32 : NatOf 32 32 := ⟨⟩
instance natOf_33 : NatOf 33 33 := ⟨⟩
instance natOf_34 : NatOf 34 34 := ⟨⟩
instance natOf_35 : NatOf 35 35 := ⟨⟩
instance natOf_36 : NatOf 36 36 := ⟨⟩
instance natOf_37 : NatOf 37 37 := ⟨⟩
instance natOf_38 : NatOf 38 38 := ⟨⟩
instance natOf_39 : NatOf 39 39 := ⟨⟩
instance natOf_40 : NatOf 40 40 := ⟨⟩
instance natOf_41 : NatOf 41 41 := ⟨⟩
instance natOf_42 : NatOf 42 42 := ⟨⟩
instance natOf_43 : NatOf 43 43 := ⟨⟩
instance natOf_44 : NatOf 44 44 := ⟨⟩
instance natOf_45 : NatOf 45 45 := ⟨⟩
instance natOf_46 : NatOf 46 46 := ⟨⟩
instance natOf_47 : NatOf 47 47 := ⟨⟩
instance natOf_48 : NatOf 48 48 := ⟨⟩
instance natOf_49 : NatOf 49 49 := ⟨⟩
instance natOf_50 : NatOf 50 50 := ⟨⟩
instance natOf_51 : NatOf 51 51 := ⟨⟩
instance natOf_52 : NatOf 52 52 := ⟨⟩
instance natOf_53 : NatOf 53 53 := ⟨⟩
instance natOf_54 : NatOf 54 54 := ⟨⟩
instance natOf_55 : NatOf 55 55 := ⟨⟩
instance natOf_56 : NatOf 56 56 := ⟨⟩
instance natOf_57 : NatOf 57 57 := ⟨⟩
instance natOf_58 : NatOf 58 58 := ⟨⟩
instance natOf_59 : NatOf 59 59 := ⟨⟩
instance natOf_60 : NatOf 60 60 := ⟨⟩
instance natOf_61 : NatOf 61 61 := ⟨⟩
instance natOf_62 : NatOf 62 62 := ⟨⟩
instance natOf_63 : NatOf 63 63 := ⟨⟩
instance natOf_64 : NatOf 64 64 := ⟨⟩
instance natOf_65 : NatOf 65 65 := ⟨⟩
instance natOf_66 : NatOf 66 66 := ⟨⟩
instance natOf_67 : NatOf 67 67 := ⟨⟩
instance natOf_68 : NatOf 68 68 := ⟨⟩
instance natOf_69 : NatOf 69 69 := ⟨⟩
instance natOf_96 : NatOf 96 96 := ⟨⟩
instance natOf_100 : NatOf 100 100 := ⟨⟩
instance natOf_120 : NatOf 120 120 := ⟨⟩
instance natOf_127 : NatOf 127 127 := ⟨⟩
instance natOf_128 : NatOf 128 128 := ⟨⟩
instance natOf_255 : NatOf 255 255 := ⟨⟩
instance natOf_256 : NatOf 256 256 := ⟨⟩
instance natOf_add (a b : Int) (i j : Nat) [NatOf a i] [NatOf b j] : NatOf (a + b) (i + j) := ⟨⟩
instance natOf_sub (a b : Int) (i j : Nat) [NatOf a i] [NatOf b j] : NatOf (a - b) (i - j) := ⟨⟩
instance natOf_mul (a b : Int) (i j : Nat) [NatOf a i] [NatOf b j] : NatOf (a * b) (i * j) := ⟨⟩
instance natOf_div (a b : Int) (i j : Nat) [NatOf a i] [NatOf b j] : NatOf (a / b) (i / j) := ⟨⟩
instance natOf_min (a b : Int) (i j : Nat) [NatOf a i] [NatOf b j] : NatOf (min a b) (min i j) := ⟨⟩
instance natOf_max (a b : Int) (i j : Nat) [NatOf a i] [NatOf b j] : NatOf (max a b) (max i j) := ⟨⟩
instance natOf_mod (a b : Int) (i j : Nat) [NatOf a i] [NatOf b j] : NatOf (a % b) (i % j) := ⟨⟩

/-! ### Elements of slices, by their place -/
/-- the place of a cell behind a slice's first one -/
def elP (v : Value) (k : Nat) : Value := match v with
  | .slice (some a) _ _ => .pointer (some ⟨a.block, a.off + k, none⟩)
  | _ => undef

theorem RDh.elP {size : Nat} {v : Value} {N : Nat} {xs : List Value} {h : HM} (r : RDh size v N xs h) (hN : 0 < N) : ∃ g o cap, v = .slice (some ⟨g, o, none⟩) N cap ∧ (∀ k, Sl.elP v k = .pointer (some ⟨g, o + k, none⟩)) ∧ ∃ cur e fr, h g = some (.cells cur e fr) ∧ (cur.toList.drop o).take (N * size) = xs := by
  obtain ⟨h1, A, cap, rfl, h2, h3, h4⟩ := r
  rcases h4 with h4 | ⟨g, o, cur, e, fr, rfl, h5, h6⟩
  · omega
  · exact ⟨g, o, cap, rfl, fun k => rfl, cur, e, fr, h5, h6⟩

section
variable {P : Program} {n : Nat} {s w : World} {a : Act} {E : List (Nat × Value)} {L : List HItem} {Q : Exit → Act → World → Prop} {next : Act → World → Prop}
variable {d : Nat} {dst : Option Nat} {ty : TypeId} {pos : String} {aft : Array Edge} {g : Option (Nat × Bool)}

theorem r_elP (h : St n s a w E L) {t el : TypeId} {x ix : Operand} {size N by_ : Nat} {v : Value} {xs : List Value} {k1 : IntKind} {c : Int} (hx : ev E x = some v) (hi : ev E ix = some (.int k1 c)) (hu : P.underlying t = some (.slice el)) (hs : tsz P el = some (size, by_))
    (hv : Views L size v N xs) {j : Nat} [NatOf c j] (hj : c = (j : Int)) (hlt : j < N) : (execOp a.eval ⟨dst, .indexAddr t x ix, ty, pos, aft, g⟩).run P w = .ok (.value (elP v (j * size))) w := by
  obtain ⟨b, o, cap, rfl, he, _⟩ := (hv _ h.2.2.2.2).elP (by omega)
  subst hj
  have h3 : ¬ N ≤ j := by omega
  rw [he]
  simp [execOp, h.1.ev hx, h.1.ev hi, Instr.indexAt, asIntOf, run_underlying hu, run_sizeOf hs, h3, hlt, Addr.add_none]

/-- a cell of a slice that is read -/
theorem r_elG (h : St n s a w E L) {t : TypeId} {x : Operand} {size N j : Nat} {v : Value} {xs : List Value} {dd : TypeDesc} (hx : ev E x = some (elP v j)) (hu : P.underlying t = some dd) (hf : TypeDesc.flat dd = true)
    (hv : Views L size v N xs) {u : Value} (hj : xs[j]? = some u) : (execOp a.eval ⟨dst, .load t x, ty, pos, aft, g⟩).run P w = .ok (.value u) w := by
  have hl := (hv _ h.2.2.2.2).1
  have hjl : j < xs.length := (List.getElem?_eq_some_iff.1 hj).1
  have hN : 0 < N := by
    rcases Nat.eq_zero_or_pos N with h0 | h0
    · subst h0; rw [Nat.zero_mul] at hl; omega
    · exact h0
  obtain ⟨b, o, cap, rfl, he, cur, e, fr, hc, hxs⟩ := (hv _ h.2.2.2.2).elP hN
  rw [he] at hx
  have hc' : w.heap[b]? = some (.cells cur e fr) := hc
  have hcell : w.cell? ⟨b, o + j, none⟩ = some u := by
    rw [← hxs, List.getElem?_take] at hj
    split at hj
    · rw [List.getElem?_drop] at hj
      simp only [World.cell?, hc']
      simpa using hj
    · cases hj
  simp [execOp, h.1.ev hx, Instr.loadAt, Instr.sureAddr, loadVar, run_isAgg hu, hf, hcell]
/-- a whole struct, or array, of a slice that is read -/
theorem r_elA (h : St n s a w E L) {t : TypeId} {x : Operand} {size N j sz by_ : Nat} {v : Value} {xs us : List Value} {dd : TypeDesc} (hx : ev E x = some (elP v j)) (hu : P.underlying t = some dd) (hf : TypeDesc.flat dd = false) (hs : tsz P t = some (sz, by_))
    (hv : Views L size v N xs) (hj : (xs.drop j).take sz = us) (hl : us.length = sz) (h0 : Nat.blt 0 sz = true) : (execOp a.eval ⟨dst, .load t x, ty, pos, aft, g⟩).run P w = .ok (.value (.agg us.toArray)) w := by
  have h0' : 0 < sz := Nat.le_of_ble_eq_true h0
  have hxl := (hv _ h.2.2.2.2).1
  have hjl : j < xs.length := by
    rw [← hj, List.length_take, List.length_drop] at hl; omega
  have hN : 0 < N := by
    rcases Nat.eq_zero_or_pos N with e0 | e0
    · subst e0; rw [Nat.zero_mul] at hxl; omega
    · exact e0
  obtain ⟨b, o, cap, rfl, he, cur, e, fr, hc, hxs⟩ := (hv _ h.2.2.2.2).elP hN
  rw [he] at hx
  have hc' : w.heap[b]? = some (.cells cur e fr) := hc
  have hcs : (loadCells ⟨b, o + j, none⟩ sz).run P w = .ok us.toArray w := by
    rw [← hl]
    refine run_loadCells_blk P w (fun i u hi => ?_)
    rw [← hj, List.getElem?_take] at hi
    split at hi
    · rw [List.getElem?_drop, ← hxs, List.getElem?_take] at hi
      split at hi
      · rw [List.getElem?_drop] at hi
        simp only [World.cell?, hc']
        simpa [Nat.add_assoc] using hi
      · cases hi
    · cases hi
  simp [execOp, h.1.ev hx, Instr.loadAt, Instr.sureAddr, loadVar, run_isAgg hu, hf, run_sizeOf hs, hcs]
/-- a field's place behind an element's -/
theorem r_elF (h : St n s a w E L) {t : TypeId} {x : Operand} {j i : Nat} {v : Value} {fs : Array Field} {f : Field} {sz by_ size N : Nat} {xs : List Value} (off : Nat) (hx : ev E x = some (elP v j)) (hu : P.underlying t = some (.struct fs)) (hf : fs[i]? = some f)
    (hs : tsz P f.type = some (sz, by_)) (hz : Nat.beq sz 0 = false) (ho : f.offset = off) (hv : Views L size v N xs) (hN : 0 < N) : (execOp a.eval ⟨dst, .fieldAddr t x i, ty, pos, aft, g⟩).run P w = .ok (.value (elP v (j + off))) w := by
  obtain ⟨b, o, cap, rfl, he, _⟩ := (hv _ h.2.2.2.2).elP hN
  rw [he] at hx
  rw [he, ← Nat.add_assoc]
  exact r_fieldAddr h off hx hu hf hs hz ho
/-- a byte, a number, a text of a slice -/
theorem r_elb (h : St n s a w E L) {t : TypeId} {x : Operand} {j : Nat} {v : Value} {l : List UInt8} {dd : TypeDesc} (hx : ev E x = some (elP v (j * 1))) (hu : P.underlying t = some dd) (hf : TypeDesc.flat dd = true)
    (hv : ViewsB L v l) (hj : j < l.length) : (execOp a.eval ⟨dst, .load t x, ty, pos, aft, g⟩).run P w = .ok (.value (bv (l.getD j 0))) w := by
  refine r_elG h hx hu hf hv ?_
  simp [bs, List.getD_eq_getElem?_getD, hj]
theorem r_el32 (h : St n s a w E L) {t : TypeId} {x : Operand} {j N : Nat} {v : Value} {l : List UInt32} {dd : TypeDesc} (hx : ev E x = some (elP v (j * 1))) (hu : P.underlying t = some dd) (hf : TypeDesc.flat dd = true)
    (hv : Views L 1 v N (l.map w32)) (hj : j < l.length) : (execOp a.eval ⟨dst, .load t x, ty, pos, aft, g⟩).run P w = .ok (.value (w32 (l.getD j 0))) w := by
  refine r_elG h hx hu hf hv ?_
  simp [List.getD_eq_getElem?_getD, hj]
theorem r_eli (h : St n s a w E L) {t : TypeId} {x : Operand} {j N : Nat} {v : Value} {l : List Int} {dd : TypeDesc} (hx : ev E x = some (elP v (j * 1))) (hu : P.underlying t = some dd) (hf : TypeDesc.flat dd = true)
    (hv : Views L 1 v N (ints l)) (hj : j < l.length) : (execOp a.eval ⟨dst, .load t x, ty, pos, aft, g⟩).run P w = .ok (.value (.int .i64 (l.getD j 0))) w := by
  refine r_elG h hx hu hf hv ?_
  simp [ints, List.getD_eq_getElem?_getD, hj]
theorem r_els (h : St n s a w E L) {t : TypeId} {x : Operand} {j N : Nat} {v : Value} {l : List (List UInt8)} {dd : TypeDesc} (hx : ev E x = some (elP v (j * 1))) (hu : P.underlying t = some dd) (hf : TypeDesc.flat dd = true)
    (hv : Views L 1 v N (svs l)) (hj : j < l.length) : (execOp a.eval ⟨dst, .load t x, ty, pos, aft, g⟩).run P w = .ok (.value (sv (l.getD j []))) w := by
  refine r_elG h hx hu hf hv ?_
  simp [svs, List.getD_eq_getElem?_getD, hj]

/-! ### Arrays: in a block, and by value -/
theorem r_arP (h : St n s a w E L) {t el : TypeId} {x ix : Operand} {b o : Nat} {N size by_ : Nat} {k1 : IntKind} {c : Int} (hx : ev E x = some (.pointer (some ⟨b, o, none⟩))) (hi : ev E ix = some (.int k1 c)) (hu : P.underlying t = some (.array N el)) (hs : tsz P el = some (size, by_))
    {j : Nat} [NatOf c j] (hj : c = (j : Int)) (hlt : j < N) : (execOp a.eval ⟨dst, .indexAddr t x ix, ty, pos, aft, g⟩).run P w = .ok (.value (.pointer (some ⟨b, o + j * size, none⟩))) w :=
  r_indexAddrA h hx hi hu hs j hj hlt
theorem r_ar32 (h : St n s a w E L) {t : TypeId} {x : Operand} {b j : Nat} {dd : TypeDesc} (hx : ev E x = some (.pointer (some ⟨b, 0 + j * 1, none⟩))) (hu : P.underlying t = some dd) (hf : TypeDesc.flat dd = true)
    (i : Nat) {l : List UInt32} {T : TypeId} {fr : Nat × Nat} (hi : L[i]? = some (Blk b (.cells (arr32 l) T fr))) (hj : j < l.length) : (execOp a.eval ⟨dst, .load t x, ty, pos, aft, g⟩).run P w = .ok (.value (w32 (l.getD j 0))) w :=
  r_load32 h hx hu hf i hi (by simp [List.getD_eq_getElem?_getD, hj])
theorem r_ar8 (h : St n s a w E L) {t : TypeId} {x : Operand} {b j : Nat} {dd : TypeDesc} (hx : ev E x = some (.pointer (some ⟨b, 0 + j * 1, none⟩))) (hu : P.underlying t = some dd) (hf : TypeDesc.flat dd = true)
    (i : Nat) {l : List UInt8} {T : TypeId} {fr : Nat × Nat} (hi : L[i]? = some (Blk b (.cells (arr8 l) T fr))) (hj : j < l.length) : (execOp a.eval ⟨dst, .load t x, ty, pos, aft, g⟩).run P w = .ok (.value (bv (l.getD j 0))) w :=
  r_load8 h hx hu hf i hi (by simp [List.getD_eq_getElem?_getD, hj])
theorem r_ix8 (h : St n s a w E L) {t el : TypeId} {x ix : Operand} {l : List UInt8} {N by_ : Nat} {k1 : IntKind} {c : Int} {dd : TypeDesc} (hx : ev E x = some (.agg (arr8 l))) (hi : ev E ix = some (.int k1 c)) (hu : P.underlying t = some (.array N el)) (he : P.underlying el = some dd) (hs : tsz P el = some (1, by_))
    (hf : TypeDesc.flat dd = true) {j : Nat} [NatOf c j] (hj : c = (j : Int)) (hlt : j < N) (hl : l.length = N) : (execOp a.eval ⟨dst, .index t x ix, ty, pos, aft, g⟩).run P w = .ok (.value (bv (l.getD j 0))) w := by
  refine r_indexA h hx hi hu he hs hf j hj hlt ?_
  have : j < l.length := by omega
  simp [arr8, List.getD_eq_getElem?_getD, this]
theorem r_ix32 (h : St n s a w E L) {t el : TypeId} {x ix : Operand} {l : List UInt32} {N by_ : Nat} {k1 : IntKind} {c : Int} {dd : TypeDesc} (hx : ev E x = some (.agg (arr32 l))) (hi : ev E ix = some (.int k1 c)) (hu : P.underlying t = some (.array N el)) (he : P.underlying el = some dd) (hs : tsz P el = some (1, by_))
    (hf : TypeDesc.flat dd = true) {j : Nat} [NatOf c j] (hj : c = (j : Int)) (hlt : j < N) (hl : l.length = N) : (execOp a.eval ⟨dst, .index t x ix, ty, pos, aft, g⟩).run P w = .ok (.value (w32 (l.getD j 0))) w := by
  refine r_indexA h hx hi hu he hs hf j hj hlt ?_
  have : j < l.length := by omega
  simp [arr32, List.getD_eq_getElem?_getD, this]
theorem r_ixT (h : St n s a w E L) {t : TypeId} {x ix : Operand} {l : List UInt8} {k1 : IntKind} {c : Int} (hx : ev E x = some (.string ⟨⟨l⟩⟩)) (hi : ev E ix = some (.int k1 c)) (hu : P.underlying t = some .string) {j : Nat} [NatOf c j] (hj : c = (j : Int)) (hlt : j < l.length) :
    (execOp a.eval ⟨dst, .index t x ix, ty, pos, aft, g⟩).run P w = .ok (.value (bv (l.getD j 0))) w :=
  r_indexT h hx hi hu j hj (by simp [List.getD_eq_getElem?_getD, hlt])

/-! ### A block of which the cells stand in a row -/
def nth : List Value → Nat → Option Value
  | [], _ => none
  | v :: _, 0 => some v
  | _ :: vs, i + 1 => nth vs i
theorem nth_eq : ∀ (vs : List Value) (i : Nat), nth vs i = vs[i]?
  | [], _ => rfl
  | v :: _, 0 => rfl
  | _ :: vs, i + 1 => by simp [nth, nth_eq vs i]
theorem r_ldN (h : St n s a w E L) {t : TypeId} {x : Operand} {b o : Nat} {dd : TypeDesc} (hx : ev E x = some (.pointer (some ⟨b, o, none⟩))) (hu : P.underlying t = some dd) (hf : TypeDesc.flat dd = true)
    (i : Nat) {vs : List Value} {T : TypeId} {fr : Nat × Nat} (hi : L[i]? = some (Blk b (.cells ⟨vs⟩ T fr))) {v : Value} (hv : nth vs o = some v) : (execOp a.eval ⟨dst, .load t x, ty, pos, aft, g⟩).run P w = .ok (.value v) w :=
  r_load h hx hu hf i hi (by rw [nth_eq] at hv; simpa using hv)

/-! ### Guards that are kept: what is guarded stands as it is, if it is wanted -/
def gval (g : Bool) (v : Value) : Value := bif g then v else undef
theorem gval_on {g : Bool} (hg : g = true) (v : Value) : gval g v = v := by subst hg; rfl
theorem gval_and {g : Bool} (hg : g = true) (b : Bool) (v : Value) : gval (g && b) v = gval b v := by subst hg; rfl
def lkOp (ops : Array Oper) (E : List (Nat × Value)) (j : Nat) : Option Value := match ops[j]? with
  | some o => match o.dst with
    | some t => lk E t
    | none => none
  | none => none
theorem lkOp_yielded (hE : Env n a E) {ops : Array Oper} {j : Nat} {v : Value} (h : lkOp ops E j = some v) : yielded ops a.tmps j = (match v with | .bool b => some b | _ => none) := by
  unfold lkOp at h
  split at h
  · rename_i o ho
    split at h
    · rename_i t ht
      have := hE.2.2 t _ h
      simp only [yielded, ho, ht, Option.bind_some, this]
      cases v <;> rfl
    · cases h
  · cases h
inductive Wants (ops : Array Oper) (E : List (Nat × Value)) (j : Nat) : Bool → Bool → Prop where
  | t {x : Bool} : lkOp ops E j = some (.bool x) → Wants ops E j true x
  | f {x : Bool} : lkOp ops E j = some (.bool x) → Wants ops E j false (!x)
  | gt {g x : Bool} : lkOp ops E j = some (gval g (.bool x)) → Wants ops E j true (g && x)
  | gf {g x : Bool} : lkOp ops E j = some (gval g (.bool x)) → Wants ops E j false (g && !x)
theorem Wants.wanted (hE : Env n a E) {ops : Array Oper} {j : Nat} {b g : Bool} (h : Wants ops E j b g) : (yielded ops a.tmps j == some b) = g := by
  cases h with
  | t h => rw [lkOp_yielded hE h]; cases g <;> rfl
  | f h => rename_i x; rw [lkOp_yielded hE h]; cases x <;> rfl
  | gt h => rename_i q x; rw [lkOp_yielded hE h]; cases q <;> cases x <;> rfl
  | gf h => rename_i q x; rw [lkOp_yielded hE h]; cases q <;> cases x <;> rfl
theorem wvG {ops : Array Oper} {rest : List Oper} {op : Op} {v : Value} (h : St n s a w E L) {j : Nat} {b g : Bool} (hg : Wants ops E j b g) (hr : g = true → (execOp a.eval (Oper.mk (some d) op ty pos aft (some (j, b)))).run P w = .ok (.value v) w) (hd : Nat.blt d n = true)
    (k : ∀ a w, St n s a w ((d, gval g v) :: E) L → wpList P ops Q rest a w) : wpList P ops Q (Oper.mk (some d) op ty pos aft (some (j, b)) :: rest) a w := by
  have hw := hg.wanted h.1
  cases g with
  | true =>
    unfold wpList
    rw [if_pos (by simp [Region.wanted, hw])]
    exact .inl (op_run h (hr rfl) hd h.2 k)
  | false =>
    unfold wpList
    rw [if_neg (by simp [Region.wanted, hw])]
    exact k _ _ ⟨h.1.put hd _, h.2⟩
theorem qvG {QQ : Act → Prop} {ops : Array Oper} {rest : List Oper} {op : Op} {v : Value} (hE : Env n a E) {j : Nat} {b g : Bool} (hg : Wants ops E j b g) (hr : g = true → ∀ w, Sat s w L → (execOp a.eval (Oper.mk (some d) op ty pos aft (some (j, b)))).run P w = .ok (.value v) w) (hd : Nat.blt d n = true)
    (k : ∀ a, Env n a ((d, gval g v) :: E) → wpQuiet P ops (fun w => Sat s w L) QQ rest a) : wpQuiet P ops (fun w => Sat s w L) QQ (Oper.mk (some d) op ty pos aft (some (j, b)) :: rest) a := by
  have hw := hg.wanted hE
  cases g with
  | true =>
    unfold wpQuiet
    rw [if_pos (by simp [Region.wanted, hw])]
    refine ⟨v, fun w hw => ?_, k _ (hE.put hd v)⟩
    unfold Oper.quietAt
    rw [hr rfl w hw]
    exact ⟨rfl, rfl⟩
  | false =>
    unfold wpQuiet
    rw [if_neg (by simp [Region.wanted, hw])]
    exact k _ (hE.put hd _)
/-- a quiet call that is guarded -/
theorem q_callG {QQ : Act → Prop} {ops : Array Oper} {rest : List Oper} {v : Value} (hE : Env n a E) {j : Nat} {b gg : Bool} (hg : Wants ops E j b gg) {f : FuncId} {xs : List Operand} {ats : Array TypeId} (hf : isGo P f = true)
    (hc : gg = true → ∃ vs, evs E xs = some vs ∧ ∀ w, Sat s w L → Calls P f vs.toArray w (fun e w' => e = .returned v ∧ Sat s w' L)) (hd : Nat.blt d n = true)
    (k : ∀ a, Env n a ((d, gval gg v) :: E) → wpQuiet P ops (fun w => Sat s w L) QQ rest a) : wpQuiet P ops (fun w => Sat s w L) QQ (Oper.mk (some d) (.call { callee := .value (.func f), args := xs.toArray, argTypes := ats }) ty pos aft (some (j, b)) :: rest) a := by
  have hw := hg.wanted hE
  cases gg with
  | true =>
    obtain ⟨vs, hx, hc⟩ := hc rfl
    unfold wpQuiet
    rw [if_pos (by simp [Region.wanted, hw])]
    refine ⟨v, fun w hw => ?_, k _ (hE.put hd v)⟩
    have he : (execOp a.eval (Oper.mk (some d) (.call { callee := .value (.func f), args := xs.toArray, argTypes := ats }) ty pos aft (some (j, b)))).run P w = .ok (.enter f vs.toArray) w := by
      have : execOp a.eval (Oper.mk (some d) (.call { callee := .value (.func f), args := xs.toArray, argTypes := ats }) ty pos aft (some (j, b))) = callFunc f (#[] ++ xs.toArray.map a.eval ++ #[]) := rfl
      rw [this, run_callFunc_go hf]
      simp [hE.evs hx]
    unfold Oper.quietAt
    rw [he]
    exact ⟨rfl, hc w hw⟩
  | false =>
    unfold wpQuiet
    rw [if_neg (by simp [Region.wanted, hw])]
    exact k _ (hE.put hd _)
theorem r_pickA (h : St n s a w E L) {c x y : Operand} {gg b : Bool} (hc : ev E c = some (.bool gg)) (hx : ev E x = some (gval gg (.bool b))) (hy : ev E y = some (.bool false)) : (execOp a.eval ⟨dst, .pick c x y, ty, pos, aft, g⟩).run P w = .ok (.value (.bool (gg && b))) w := by
  cases gg <;> simp [execOp, h.1.ev hc, h.1.ev hx, h.1.ev hy, asBool, gval]
theorem r_pickO (h : St n s a w E L) {c x y : Operand} {gg b : Bool} (hc : ev E c = some (.bool gg)) (hx : ev E x = some (.bool true)) (hy : ev E y = some (gval (!gg) (.bool b))) : (execOp a.eval ⟨dst, .pick c x y, ty, pos, aft, g⟩).run P w = .ok (.value (.bool (gg || b))) w := by
  cases gg <;> simp [execOp, h.1.ev hc, h.1.ev hx, h.1.ev hy, asBool, gval]

/-! ### Arrays of numbers, compared -/
theorem eqIn_arr {t el : TypeId} {N by_ : Nat} {k : IntKind} (hu : P.underlying t = some (.array N el)) (he : P.underlying el = some (.int k)) (hs : tsz P el = some (1, by_)) (xs ys : List Int) (h1 : xs.length = N) (h2 : ys.length = N) (dd : Nat) (w : World)
    (hin : ∀ a b w, (Op.equalIn dd el (.int k a) (.int k b)).run P w = .ok (a == b) w) :
    (Op.equalIn (dd + 1) t (.agg (xs.map (Value.int k)).toArray) (.agg (ys.map (Value.int k)).toArray)).run P w = .ok (decide (xs = ys)) w := by
  have part1 : ∀ (zs : List Int) (i : Nat), i < zs.length → (part el (zs.map (Value.int k)).toArray (i * 1)).run P w = .ok (.int k (zs.getD i 0)) w := by
    intro zs i hi
    simp [part, run_isAgg he, TypeDesc.flat, hi, List.getD_eq_getElem?_getD]
  simp only [Op.equalIn, Sem.run_bind, run_underlying hu, Result.andThen_ok, run_sizeOf hs]
  simp only [Std.Legacy.Range.forIn_eq_forIn_range', Std.Legacy.Range.size]
  have key : ∀ (m i : Nat), i + m = N → (xs.take i = ys.take i) →
      (forIn (List.range' i m) ((none : Option Bool), ()) fun (i : Nat) (_ : Option Bool × Unit) => (do
        let a ← part el (xs.map (Value.int k)).toArray (i * 1)
        let b ← part el (ys.map (Value.int k)).toArray (i * 1)
        let r ← Op.equalIn dd el a b
        if (!r) = true then pure (ForInStep.done (some false, ())) else pure (ForInStep.yield (none, ())) : Sem (ForInStep (Option Bool × Unit)))).run P w = .ok (if xs = ys then none else some false, ()) w := by
    intro m
    induction m with
    | zero =>
      intro i hi ht
      have : xs = ys := by
        rw [List.take_of_length_le (by omega), List.take_of_length_le (by omega)] at ht
        exact ht
      simp [this]
    | succ m ih =>
      intro i hi ht
      have ex : xs[i]? = some (xs.getD i 0) := by rw [List.getD_eq_getElem?_getD, List.getElem?_eq_getElem (by omega)]; rfl
      have ey : ys[i]? = some (ys.getD i 0) := by rw [List.getD_eq_getElem?_getD, List.getElem?_eq_getElem (by omega)]; rfl
      rw [List.range'_succ, List.forIn_cons]
      simp only [Sem.run_bind, part1 xs i (by omega), part1 ys i (by omega), Result.andThen_ok, hin]
      by_cases e : xs.getD i 0 = ys.getD i 0
      · rw [e]
        simp only [BEq.rfl, Bool.not_true, Bool.false_eq_true, if_false, Sem.run_pure, Result.andThen_ok]
        refine ih (i + 1) (by omega) ?_
        rw [List.take_add_one, List.take_add_one, ht, ex, ey, e]
      · have hne : xs ≠ ys := fun hh => e (by rw [hh])
        have hb : (xs.getD i 0 == ys.getD i 0) = false := by simpa using e
        simp only [hb, Bool.not_false, if_true, Sem.run_pure, Result.andThen_ok, if_neg hne]
  have h0 := key N 0 (by omega) (by simp)
  rw [show (N - 0 + 1 - 1) / 1 = N by omega, h0]
  by_cases e : xs = ys <;> simp [e]
theorem bytes_ints (l : List UInt8) : bs l = (l.map fun x => (x.toNat : Int)).map (Value.int .u8) := by simp [bs, bv]
theorem map_inj_of {α β : Type} {f : α → β} (hf : ∀ a b, f a = f b → a = b) : ∀ (l m : List α), l.map f = m.map f → l = m
  | [], [], _ => rfl
  | [], _ :: _, h => by simp at h
  | _ :: _, [], h => by simp at h
  | x :: l, y :: m, h => by
    simp only [List.map_cons, List.cons.injEq] at h
    rw [hf _ _ h.1, map_inj_of hf l m h.2]
theorem bytes_inj {l m : List UInt8} : (l.map fun x => (x.toNat : Int)) = (m.map fun x => (x.toNat : Int)) ↔ l = m :=
  ⟨map_inj_of (fun a b hab => UInt8.toNat_inj.1 (by omega)) l m, fun h => by rw [h]⟩
theorem equal_arr8 {t el : TypeId} {N by_ : Nat} (hu : P.underlying t = some (.array N el)) (he : P.underlying el = some (.int .u8)) (hs : tsz P el = some (1, by_)) {l m : List UInt8} (h1 : l.length = N) (h2 : m.length = N) (w : World) :
    (Op.equal t (.agg (arr8 l)) (.agg (arr8 m))).run P w = .ok (decide (l = m)) w := by
  have := eqIn_arr hu he hs (l.map fun x => (x.toNat : Int)) (m.map fun x => (x.toNat : Int)) (by simpa using h1) (by simpa using h2) 9999 w (fun a b w => run_equalIn_int w 9998 el .u8 .u8 a b he)
  rw [← bytes_ints, ← bytes_ints] at this
  rw [show decide (l = m) = decide ((l.map fun x => (x.toNat : Int)) = (m.map fun x => (x.toNat : Int))) from decide_eq_decide.2 bytes_inj.symm]
  exact this
theorem r_arreq (h : St n s a w E L) {xt yt el : TypeId} {N by_ : Nat} {x y : Operand} {l m : List UInt8} (hx : ev E x = some (.agg (arr8 l))) (hy : ev E y = some (.agg (arr8 m))) (hu : P.underlying xt = some (.array N el)) (he : P.underlying el = some (.int .u8)) (hs : tsz P el = some (1, by_))
    (hm : P.eqGuardType P.depth xt = false) (h1 : l.length = N) (h2 : m.length = N) : (execOp a.eval ⟨dst, .binOp .eql xt x y yt, ty, pos, aft, g⟩).run P w = .ok (.value (.bool (decide (l = m)))) w := by
  refine r_binv h hx hy (fun w => ⟨run_eqGuard_agg w _ _ _ _ _ _ hm, ?_⟩)
  show ((Op.equal xt (.agg (arr8 l)) (.agg (arr8 m)) >>= fun r => pure (Value.bool r)).run P w) = _
  rw [Sem.run_bind, equal_arr8 hu he hs h1 h2]
  rfl
theorem r_arrne (h : St n s a w E L) {xt yt el : TypeId} {N by_ : Nat} {x y : Operand} {l m : List UInt8} (hx : ev E x = some (.agg (arr8 l))) (hy : ev E y = some (.agg (arr8 m))) (hu : P.underlying xt = some (.array N el)) (he : P.underlying el = some (.int .u8)) (hs : tsz P el = some (1, by_))
    (hm : P.eqGuardType P.depth xt = false) (h1 : l.length = N) (h2 : m.length = N) : (execOp a.eval ⟨dst, .binOp .neq xt x y yt, ty, pos, aft, g⟩).run P w = .ok (.value (.bool (decide (l ≠ m)))) w := by
  refine r_binv h hx hy (fun w => ⟨run_eqGuard_agg w _ _ _ _ _ _ hm, ?_⟩)
  show ((Op.equal xt (.agg (arr8 l)) (.agg (arr8 m)) >>= fun r => pure (Value.bool (!r))).run P w) = _
  rw [Sem.run_bind, equal_arr8 hu he hs h1 h2]
  have : (!decide (l = m)) = decide (l ≠ m) := by by_cases e : l = m <;> simp [e]
  rw [← this]; rfl
end
end Go.Sl

/- A small library for walks, part Q: parts, stores and appends by form; items that hold others. No statement is proved here. -/
namespace Go.Sl

theorem Bnd.of {E : List (Nat × Value)} {x : Operand} {c : Int} {kk : IntKind} {j dflt : Nat} [NatOf c j] (hx : ev E x = some (.int kk c)) (hj : c = (j : Int)) : Bnd E (some x) dflt j := ⟨kk, by rw [hx, hj]⟩
theorem Bnd.no {E : List (Nat × Value)} {dflt : Nat} : Bnd E none dflt dflt := rfl

/-! ### Items that hold others -/
def Sep (M : List HItem) : HItem := ⟨sepL M, fun _ _ hl h => sepL_mono M hl h⟩
def Ex {X : Type} (f : X → HItem) : HItem := ⟨fun h => ∃ x, (f x).P h, fun _ _ hl ⟨x, h⟩ => ⟨x, (f x).mono _ _ hl h⟩⟩
/-- a fact beside the items -/
def Fact (p : Prop) : HItem := ⟨fun _ => p, fun _ _ _ h => h⟩

theorem sepL_congr : ∀ (L : List HItem) {h h' : HM}, (∀ b, h b = h' b) → sepL L h → sepL L h' := fun L h h' e hs => sepL_mono L (fun b o hb => by rw [← e]; exact hb) hs
theorem sepL_append : ∀ (M L : List HItem) (h : HM), sepL (M ++ L) h ↔ ∃ D : Nat → Bool, sepL M (restr D h) ∧ sepL L (restr (fun b => !D b) h)
  | [], L, h => by
    constructor
    · intro hs
      exact ⟨fun _ => false, trivial, sepL_congr L (fun b => by simp [restr]) hs⟩
    · rintro ⟨D, _, hs⟩
      exact sepL_mono L restr_le hs
  | I :: M, L, h => by
    constructor
    · rintro ⟨D, hI, hs⟩
      obtain ⟨D', hM, hL⟩ := (sepL_append M L _).1 hs
      refine ⟨fun b => D b || D' b, ⟨D, ?_, ?_⟩, ?_⟩
      · refine I.mono _ _ ?_ hI
        intro b o hb; simp only [restr] at hb ⊢; split at hb <;> simp_all
      · refine sepL_mono M ?_ hM
        intro b o hb; simp only [restr] at hb ⊢; split at hb <;> simp_all
      · refine sepL_mono L ?_ hL
        intro b o hb; simp only [restr] at hb ⊢; split at hb <;> simp_all
    · rintro ⟨D, ⟨D', hI, hM⟩, hL⟩
      refine ⟨fun b => D b && D' b, ?_, (sepL_append M L _).2 ⟨D, ?_, ?_⟩⟩
      · refine I.mono _ _ ?_ hI
        intro b o hb; simp only [restr] at hb ⊢; split at hb <;> simp_all
      · refine sepL_mono M ?_ hM
        intro b o hb; simp only [restr] at hb ⊢; split at hb <;> simp_all
      · refine sepL_mono L ?_ hL
        intro b o hb; simp only [restr] at hb ⊢; split at hb <;> simp_all
theorem Sat.unsep {s w : World} {M L : List HItem} (h : Sat s w (Sep M :: L)) : Sat s w (M ++ L) :=
  ⟨h.1, h.2.1, h.2.2.1, (sepL_append M L _).2 h.2.2.2⟩
theorem Sat.sep {s w : World} {M L : List HItem} (h : Sat s w (M ++ L)) : Sat s w (Sep M :: L) :=
  ⟨h.1, h.2.1, h.2.2.1, (sepL_append M L _).1 h.2.2.2⟩
theorem Sat.unex {s w : World} {X : Type} {f : X → HItem} {L : List HItem} (h : Sat s w (Ex f :: L)) : ∃ x, Sat s w (f x :: L) := by
  obtain ⟨h1, h2, h3, D, ⟨x, hx⟩, hL⟩ := h
  exact ⟨x, h1, h2, h3, D, hx, hL⟩
theorem Sat.ex {s w : World} {X : Type} {f : X → HItem} {L : List HItem} (x : X) (h : Sat s w (f x :: L)) : Sat s w (Ex f :: L) := by
  obtain ⟨h1, h2, h3, D, hx, hL⟩ := h
  exact ⟨h1, h2, h3, D, ⟨x, hx⟩, hL⟩
theorem Sat.unfact {s w : World} {p : Prop} {L : List HItem} (h : Sat s w (Fact p :: L)) : p ∧ Sat s w L :=
  ⟨h.2.2.2.choose_spec.1, h.tail⟩
theorem Sat.fact {s w : World} {p : Prop} {L : List HItem} (hp : p) (h : Sat s w L) : Sat s w (Fact p :: L) :=
  ⟨h.1, h.2.1, h.2.2.1, fun _ => false, hp, sepL_congr L (fun b => by simp [restr]) h.2.2.2⟩
theorem sepL_perm {L M : List HItem} (hp : L.Perm M) : ∀ h : HM, sepL L h → sepL M h := by
  induction hp with
  | nil => exact fun _ h => h
  | cons x _ ih => exact fun h ⟨D, hI, hL⟩ => ⟨D, hI, ih _ hL⟩
  | swap x y l => exact fun h hs => sepL_swap hs
  | trans _ _ ih1 ih2 => exact fun h hs => ih2 _ (ih1 _ hs)
/-- two orders of the same items -/
theorem Sat.perm {s w : World} {L M : List HItem} (hp : L.Perm M) (h : Sat s w L) : Sat s w M := ⟨h.1, h.2.1, h.2.2.1, sepL_perm hp _ h.2.2.2⟩

section
variable {P : Program} {n : Nat} {s w : World} {a : Act} {E : List (Nat × Value)} {L : List HItem} {Q : Exit → Act → World → Prop} {next : Act → World → Prop}
variable {d : Nat} {dst : Option Nat} {ty : TypeId} {pos : String} {aft : Array Edge} {g : Option (Nat × Bool)}

/-! ### Stores into one's own slices, by the element's place -/
theorem op_storeEl (h : St n s a w E L) {t : TypeId} {x y : Operand} {size N j by_ : Nat} {v u : Value} {xs : List Value} (hx : ev E x = some (elP v j)) (hy : ev E y = some u) (hs : tsz P t = some (1, by_)) (h1 : u.oneCell' = true)
    (it : Nat) (hit : L[it]? = some (Own size v N xs)) (hj : j < N * size)
    (k : ∀ a w, St n s a w E (L.set it (Own size v N (xs.set j u))) → next a w) : (Oper.mk none (.store t x y) ty pos aft g).wp P a w next Q := by
  have hN : 0 < N := by
    rcases Nat.eq_zero_or_pos N with e0 | e0
    · subst e0; simp at hj
    · exact e0
  obtain ⟨b, o, cap, rfl, he, _⟩ := (Views.own it hit _ h.2.2.2.2).elP hN
  rw [he] at hx
  exact op_storeOwn h hx hy hs h1 it hit j rfl hj k
theorem op_storeEb (h : St n s a w E L) {t : TypeId} {x y : Operand} {j by_ : Nat} {v : Value} {u : UInt8} {l : List UInt8} (hx : ev E x = some (elP v (j * 1))) (hy : ev E y = some (bv u)) (hs : tsz P t = some (1, by_))
    (it : Nat) (hit : L[it]? = some (OwnB v l)) (hj : j < l.length)
    (k : ∀ a w, St n s a w E (L.set it (OwnB v (l.set j u))) → next a w) : (Oper.mk none (.store t x y) ty pos aft g).wp P a w next Q := by
  refine op_storeEl h hx hy hs rfl it hit (by omega) (fun a w h => k a w ?_)
  have e : Own 1 v l.length ((bs l).set (j * 1) (bv u)) = OwnB v (l.set j u) := OwnB_eq (by simp [bs, List.map_set]) (by simp)
  rw [e] at h; exact h
/-- a row of things of one cell each, a call's own -/
def OwnL {α : Type} (enc : α → Value) (v : Value) (l : List α) : HItem := Own 1 v l.length (l.map enc)
theorem OwnL_eq {α : Type} {enc : α → Value} {v : Value} {N : Nat} {xs : List Value} {l : List α} (hx : xs = l.map enc) (hN : N = l.length) : Own 1 v N xs = OwnL enc v l := by subst hx; subst hN; rfl
theorem op_storeL {α : Type} {enc : α → Value} (he : ∀ x, (enc x).oneCell' = true) (h : St n s a w E L) {t : TypeId} {x y : Operand} {j by_ : Nat} {v : Value} {u : α} {l : List α} (hx : ev E x = some (elP v (j * 1))) (hy : ev E y = some (enc u)) (hs : tsz P t = some (1, by_))
    (it : Nat) (hit : L[it]? = some (OwnL enc v l)) (hj : j < l.length)
    (k : ∀ a w, St n s a w E (L.set it (OwnL enc v (l.set j u))) → next a w) : (Oper.mk none (.store t x y) ty pos aft g).wp P a w next Q := by
  refine op_storeEl h hx hy hs (he u) it hit (by omega) (fun a w h => k a w ?_)
  have e : Own 1 v l.length ((l.map enc).set (j * 1) (enc u)) = OwnL enc v (l.set j u) := OwnL_eq (by simp [List.map_set]) (by simp)
  rw [e] at h; exact h
/-- one more, out of the block that was made for it -/
theorem op_appendL1 {α : Type} {enc : α → Value} {u : α} {T : TypeId} {b : Nat} {fr : Nat × Nat} (h : St n s a w E (Blk b (.cells #[enc u] T fr) :: L)) (h1 : (enc u).oneCell' = true) {t el : TypeId} {x y : Operand} {bytes : Nat} {z v : Value} {l : List α} (hx : ev E x = some v) (hy : ev E y = some (.slice (some ⟨b, 0, none⟩) 1 1)) (hu : P.underlying t = some (.slice el)) (hs : tsz P el = some (1, bytes)) (hz : tzero P el = some z)
    (hzs : z.cells.size = 1) (hby : Nat.ble bytes 4096 = true) (i : Nat) (hi : L[i]? = some (OwnL enc v l)) (hN : l.length + 1 ≤ 4294967296)
    (hd : Nat.blt d n = true) (k : ∀ v' a w, St n s a w ((d, v') :: E) (L.set i (OwnL enc v' (l ++ [u]))) → next a w) :
    (Oper.mk (some d) (.call { callee := .builtin .append, args := #[x, y], argTypes := #[t, t] }) ty pos aft g).wp P a w next Q := by
  refine op_append1 h hx hy hu hs hz hzs hby i hi h1 hN hd (fun v' a w h => k v' a w ?_)
  have e : Own 1 v' (l.length + 1) (l.map enc ++ [enc u]) = OwnL enc v' (l ++ [u]) := OwnL_eq (by simp) (by simp)
  rw [e] at h; exact h
/-- a row of structs, a call's own -/
def OwnM {α : Type} (size : Nat) (cells : α → List Value) (v : Value) (l : List α) : HItem := Own size v l.length (l.flatMap cells)
theorem OwnM_eq {α : Type} {size : Nat} {cells : α → List Value} {v : Value} {N : Nat} {xs : List Value} {l : List α} (hx : xs = l.flatMap cells) (hN : N = l.length) : Own size v N xs = OwnM size cells v l := by subst hx; subst hN; rfl
theorem op_appendM1 {α : Type} {size : Nat} {cells : α → List Value} {u : α} {T : TypeId} {b : Nat} {fr : Nat × Nat} (h : St n s a w E (Blk b (.cells (cells u).toArray T fr) :: L)) (hl : (cells u).length = size) (h1 : ∀ q ∈ cells u, q.oneCell' = true) {t el : TypeId} {x y : Operand} {bytes : Nat} {z v : Value} {l : List α} (hx : ev E x = some v) (hy : ev E y = some (.slice (some ⟨b, 0, none⟩) 1 1)) (hu : P.underlying t = some (.slice el)) (hs : tsz P el = some (size, bytes)) (hz : tzero P el = some z)
    (hzs : z.cells.size = size) (hby : Nat.ble bytes 4096 = true) (i : Nat) (hi : L[i]? = some (OwnM size cells v l)) (hN : l.length + 1 ≤ 4294967296)
    (hd : Nat.blt d n = true) (k : ∀ v' a w, St n s a w ((d, v') :: E) (L.set i (OwnM size cells v' (l ++ [u]))) → next a w) :
    (Oper.mk (some d) (.call { callee := .builtin .append, args := #[x, y], argTypes := #[t, t] }) ty pos aft g).wp P a w next Q := by
  have hv : Views (Blk b (.cells (cells u).toArray T fr) :: L) size (.slice (some ⟨b, 0, none⟩) 1 1) 1 (cells u) := Views.blk 0 rfl rfl rfl (by rw [Nat.one_mul, ← hl]; simp) (by omega)
  refine op_append (xs := l.flatMap cells) (N := l.length) h hx hy hu hs hz hzs hby (i + 1) (show L[i]? = _ from hi) (Src.views hu hv h.2) h1 hN hd (fun v' a w h => k v' a w ?_)
  have e : Own size v' (l.length + 1) (l.flatMap cells ++ cells u) = OwnM size cells v' (l ++ [u]) := OwnM_eq (by simp) (by simp)
  rw [e] at h; exact h.drop 1
theorem flatMap_get {α : Type} {size : Nat} {cells : α → List Value} (hc : ∀ x, (cells x).length = size) : ∀ (l : List α) (j : Nat) (x : α), l[j]? = some x → ((l.flatMap cells).drop (j * size)).take size = cells x
  | [], j, x, h => by simp at h
  | y :: l, 0, x, h => by
    simp at h; subst h
    simp only [Nat.zero_mul, List.drop_zero, List.flatMap_cons]
    exact List.take_left' (hc _)
  | y :: l, j + 1, x, h => by
    rw [List.flatMap_cons, Nat.add_mul, Nat.one_mul, Nat.add_comm, ← List.drop_drop, List.drop_left' (hc _)]
    exact flatMap_get hc l j x (by simpa using h)
theorem flatMap_set {α : Type} {size : Nat} {cells : α → List Value} (hc : ∀ x, (cells x).length = size) : ∀ (l : List α) (j : Nat) (x : α), j < l.length → (l.flatMap cells).take (j * size) ++ cells x ++ (l.flatMap cells).drop (j * size + size) = (l.set j x).flatMap cells
  | [], j, x, h => by simp at h
  | y :: l, 0, x, h => by
    simp only [Nat.zero_mul, List.take_zero, List.nil_append, List.flatMap_cons, List.set_cons_zero, Nat.zero_add]
    rw [List.drop_left' (hc _)]
  | y :: l, j + 1, x, h => by
    have := flatMap_set hc l j x (by simpa using h)
    rw [List.flatMap_cons, List.set_cons_succ, List.flatMap_cons, ← this, Nat.add_mul, Nat.one_mul]
    rw [List.take_append, List.drop_append, hc, List.take_of_length_le (by rw [hc]; omega), show j * size + size - size = j * size by omega, List.drop_eq_nil_iff.2 (by rw [hc]; omega), show j * size + size + size - size = j * size + size by omega]
    simp [List.append_assoc]
/-- a whole struct of one's own row is written -/
theorem op_storeM {α : Type} {size : Nat} {cells : α → List Value} (hc : ∀ x, (cells x).length = size) (h : St n s a w E L) {t : TypeId} {x y : Operand} {j by_ : Nat} {v : Value} {u : α} {l : List α} (hx : ev E x = some (elP v (j * size))) (hy : ev E y = some (.agg (cells u).toArray)) (hs : tsz P t = some (size, by_)) (h1 : ∀ q ∈ cells u, q.oneCell' = true)
    (it : Nat) (hit : L[it]? = some (OwnM size cells v l)) (hj : j < l.length)
    (k : ∀ a w, St n s a w E (L.set it (OwnM size cells v (l.set j u))) → next a w) : (Oper.mk none (.store t x y) ty pos aft g).wp P a w next Q := by
  have hil : it < L.length := (List.getElem?_eq_some_iff.1 hit).1
  obtain ⟨e1, e2, e3, D, ⟨hxl, hI⟩, hL⟩ := h.2.front it hit
  rcases hI with ⟨hn, h0⟩ | ⟨b, o, cap, cur, e, fr, rfl, hb, hfr, hnc, hcm, hcs, hxx⟩
  · omega
  · have hb' : w.heap[b]? = some (.cells cur e fr) := restr_le b _ hb
    have hjs : j * size + size ≤ l.length * size := by
      have := Nat.mul_le_mul_right size (show j + 1 ≤ l.length by omega)
      rw [Nat.add_mul, Nat.one_mul] at this; exact this
    have hNc : l.length * size ≤ cap * size := Nat.mul_le_mul_right _ hnc
    have hul := hc u
    obtain ⟨w', hr, g1, g2, g3, g4, g5⟩ := run_storeCells_gen P b e fr (o + j * size) (cells u) 0 cur w hb' (by omega) hfr h1
    refine op_run_skip h (w' := w') ?_ ?_ k
    · have hcc : (Value.agg (cells u).toArray).cells = (cells u).toArray := rfl
      have hx' : ev E x = some (.pointer (some ⟨b, o + j * size, none⟩)) := hx
      simp [execOp, h.1.ev hx', h.1.ev hy, Instr.storeAt, Instr.sureAddr, storeVar, hcc, run_sizeOf hs, hul, hr]
    · have hD : D b = true := by
        simp only [restr] at hb
        split at hb
        · assumption
        · cases hb
      refine ⟨g1.trans e1, g2.trans e2, g3.trans e3, sepL_set hil ⟨D, ⟨?_, .inr ⟨b, o, cap, splice cur (o + j * size + 0) (cells u), e, fr, ?_, ?_, ?_, ?_, hcm, ?_, ?_⟩⟩, ?_⟩⟩
      · rw [← flatMap_set hc l j u hj]
        simp only [List.length_append, List.length_take, List.length_drop, hxl, hul, List.length_set]; omega
      · simp
      · show restr D (hmOf w') b = _
        simp only [restr, hD, if_true]
        exact g4
      · rw [splice_size _ _ _ (by omega)]; exact hfr
      · simpa using hnc
      · rw [splice_size _ _ _ (by omega)]; exact hcs
      · rw [← flatMap_set hc l j u hj, ← hxx, List.length_set]
        have hcl : cur.toList.length = cur.size := Array.length_toList
        apply List.ext_getElem?
        intro i
        simp only [splice, Nat.add_zero]
        rw [List.getElem?_take]
        split
        · rename_i hi
          rw [List.getElem?_drop]
          by_cases h1' : i < j * size
          · rw [List.append_assoc, List.getElem?_append_left (by simp; omega), List.getElem?_take, if_pos (by omega), List.append_assoc, List.getElem?_append_left (by simp; omega), List.getElem?_take, if_pos h1', List.getElem?_take, if_pos (by omega), List.getElem?_drop]
          · by_cases h2' : i < j * size + size
            · rw [List.append_assoc, List.getElem?_append_right (by simp; omega), List.getElem?_append_left (by simp; omega), List.append_assoc, List.getElem?_append_right (by simp; omega), List.getElem?_append_left (by simp; omega)]
              congr 1
              simp; omega
            · rw [List.getElem?_append_right (by simp; omega), List.getElem?_append_right (by simp; omega), List.getElem?_drop, List.getElem?_drop, List.getElem?_take, if_pos (by simp; omega), List.getElem?_drop]
              congr 1
              simp; omega
        · rename_i hi
          rw [List.getElem?_eq_none]
          simp; omega
      · refine sepL_mono _ ?_ hL
        intro q u' hk
        simp only [restr] at hk ⊢
        split at hk
        · rename_i hk'
          rw [if_pos hk']
          have : q ≠ b := by intro ee; subst ee; simp [hD] at hk'
          show w'.heap[q]? = some u'
          rw [g5 q this]; exact hk
        · cases hk
end
end Go.Sl

