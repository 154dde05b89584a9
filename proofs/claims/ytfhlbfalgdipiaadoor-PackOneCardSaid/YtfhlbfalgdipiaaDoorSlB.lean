/- A small library for walks, part B: frames and code. No statement is proved here. -/
import Derived.Test.YtfhlbfalgdipiaaDoorSlA
set_option linter.unusedVariables false
namespace Go.Sl

/-! ### The frame of a call: what is known of its slots -/
def lk : List (Nat × Value) → Nat → Option Value
  | [], _ => none
  | (d, v) :: E, t => bif Nat.beq d t then some v else lk E t

def Env (n : Nat) (a : Act) (E : List (Nat × Value)) : Prop := a.tmps.size = n ∧ a.defers = [] ∧ ∀ t v, lk E t = some v → a.tmps[t]? = some v

def ev (E : List (Nat × Value)) : Operand → Option Value
  | .tmp t => lk E t
  | .const v => some v
  | .global g => some (.pointer (some ⟨g, 0, none⟩))
  | .func f => some (.func (.func f) #[] #[])

theorem Env.ev {n : Nat} {a : Act} {E : List (Nat × Value)} (h : Env n a E) {x : Operand} {v : Value} (hx : ev E x = some v) : a.eval x = v := by
  cases x with
  | tmp t =>
    have := h.2.2 t v hx
    simp [Act.eval, Array.getD_eq_getD_getElem?, this]
  | const u => exact Option.some.inj hx
  | global g => exact Option.some.inj hx
  | func f => exact Option.some.inj hx

theorem Env.put {n : Nat} {a : Act} {E : List (Nat × Value)} (h : Env n a E) {d : Nat} (hd : Nat.blt d n = true) (v : Value) : Env n (a.put (some d) v) ((d, v) :: E) := by
  have hd' : d < n := Nat.le_of_ble_eq_true hd
  refine ⟨by simpa [Act.put] using h.1, h.2.1, ?_⟩
  intro t u hu
  simp only [lk] at hu
  by_cases e : d = t
  · subst e
    have hb : Nat.beq d d = true := Nat.beq_refl d
    rw [hb] at hu
    simp only [cond_true, Option.some.injEq] at hu
    subst hu
    simp [Act.put, h.1, hd']
  · have hb : Nat.beq d t = false := by cases hh : Nat.beq d t with | false => rfl | true => exact absurd (Nat.eq_of_beq_eq_true hh) e
    rw [hb] at hu
    have := h.2.2 t u hu
    simp only [Act.put]
    rw [Array.getElem?_setIfInBounds_ne e]
    exact this

theorem Env.put_none {n : Nat} {a : Act} {E : List (Nat × Value)} (h : Env n a E) (v : Value) : Env n (a.put none v) E := h

def pickE (E : List (Nat × Value)) : List Nat → List (Nat × Value)
  | [] => []
  | t :: ts => match lk E t with
    | some v => (t, v) :: pickE E ts
    | none => pickE E ts

theorem lk_pickE (E : List (Nat × Value)) : ∀ (ts : List Nat) (t : Nat) (v : Value), lk (pickE E ts) t = some v → lk E t = some v
  | [], t, v, h => by simp [pickE, lk] at h
  | u :: ts, t, v, h => by
    simp only [pickE] at h
    cases e : lk E u with
    | none => rw [e] at h; exact lk_pickE E ts t v h
    | some x =>
      rw [e] at h
      simp only [lk] at h
      cases hb : Nat.beq u t with
      | true =>
        rw [hb] at h
        simp only [cond_true, Option.some.injEq] at h
        have := Nat.eq_of_beq_eq_true hb
        subst this; subst h; exact e
      | false => rw [hb] at h; exact lk_pickE E ts t v h

/-- the state of a walk: the frame's slots, the world's items -/
def St (n : Nat) (s : World) (a : Act) (w : World) (E : List (Nat × Value)) (L : List HItem) : Prop := Env n a E ∧ Sat s w L

theorem St.keep {n : Nat} {s : World} {a : Act} {w : World} {E : List (Nat × Value)} {L : List HItem} (h : St n s a w E L) (ts : List Nat) : St n s a w (pickE E ts) L :=
  ⟨⟨h.1.1, h.1.2.1, fun t v hv => h.1.2.2 t v (lk_pickE E ts t v hv)⟩, h.2⟩

theorem St.front {n : Nat} {s : World} {a : Act} {w : World} {E : List (Nat × Value)} {L : List HItem} (h : St n s a w E L) (i : Nat) {I : HItem} (e : L[i]? = some I) : St n s a w E (I :: L.eraseIdx i) :=
  ⟨h.1, h.2.front i e⟩
theorem St.drop {n : Nat} {s : World} {a : Act} {w : World} {E : List (Nat × Value)} {L : List HItem} (h : St n s a w E L) (k : Nat) : St n s a w E (L.drop k) := ⟨h.1, h.2.drop k⟩
theorem St.mem {n : Nat} {s : World} {a : Act} {w : World} {E : List (Nat × Value)} {L L' : List HItem} (h : St n s a w E L) (f : Sat s w L → Sat s w L') : St n s a w E L' := ⟨h.1, f h.2⟩

def argsE : Nat → List Value → List (Nat × Value)
  | _, [] => []
  | i, v :: vs => (i, v) :: argsE (i + 1) vs

theorem lk_argsE : ∀ (i : Nat) (vs : List Value) (t : Nat) (v : Value), lk (argsE i vs) t = some v → i ≤ t ∧ vs[t - i]? = some v
  | _, [], _, _, h => by simp [argsE, lk] at h
  | i, u :: vs, t, v, h => by
    simp only [argsE, lk] at h
    cases hb : Nat.beq i t with
    | true =>
      rw [hb] at h
      have := Nat.eq_of_beq_eq_true hb
      subst this
      simp at h
      simp [h]
    | false =>
      rw [hb] at h
      have ⟨h1, h2⟩ := lk_argsE (i + 1) vs t v h
      refine ⟨by omega, ?_⟩
      have : t - i = (t - (i + 1)) + 1 := by omega
      rw [this]
      simpa using h2

section
variable {P : Program} {n : Nat} {s w : World} {a : Act} {E : List (Nat × Value)} {L : List HItem}

theorem enter {f : FuncId} {fn : Func} {c : Code} {args : Array Value} {R : Ending → World → Prop} (hf : P.funcs[f]? = some fn) (hb : fn.body = some c) (hn : fn.ntmps = n)
    (hs : Nat.ble args.size n = true) (hw : Sat s w L) (h : ∀ a w, St n s a w (argsE 0 args.toList) L → c.wp P (bodyPost P fn R) a w) : Calls P f args w R := by
  refine calls_of_wp hf hb (h _ _ ⟨⟨?_, rfl, ?_⟩, hw⟩)
  · have : args.size ≤ n := by simpa using hs
    simp [hn]; omega
  · intro t v hv
    have ⟨_, h2⟩ := lk_argsE 0 args.toList t v hv
    simp only [Nat.sub_zero, Array.getElem?_toList] at h2
    have hlt : t < args.size := (Array.getElem?_eq_some_iff.1 h2).1
    show (args ++ _)[t]? = some v
    rw [Array.getElem?_append_left hlt]
    exact h2

/-! ### Code -/
variable {Q : Exit → Act → World → Prop} {K : Act → World → Prop}

theorem c_seq {x y : Code} (h : x.wp P (Exit.then (y.wp P Q) Q) a w) : (Code.seq x y).wp P Q a w := wp_seq h
theorem c_region {id : Nat} {l : List Oper} (h : wpList P l.toArray Q l a w) : (Code.region id l.toArray false).wp P Q a w := wp_region_lit h
theorem c_then {x : Exit → Act → World → Prop} (h : K a w) : Exit.then K x .normal a w := h
theorem c_skip (h : Q .normal a w) : Code.skip.wp P Q a w := wp_skip h
theorem c_ret (h : Q .ret a w) : Code.ret.wp P Q a w := wp_ret h
theorem c_exit {i : Nat} (h : Q (.exit i) a w) : (Code.exit i).wp P Q a w := wp_exit h
theorem c_block {i : Nat} {c : Code} (h : c.wp P (Exit.inBlock i Q) a w) : (Code.block i c).wp P Q a w := wp_block h

theorem c_cond (h : St n s a w E L) {c : Operand} {x y : Code} {t : Bool} (hc : ev E c = some (.bool t)) (ht : t = true → x.wp P Q a w) (hf : t = false → y.wp P Q a w) : (Code.cond c x y).wp P Q a w :=
  wp_cond_split (h.1.ev hc) ht hf
theorem c_condD (h : St n s a w E L) {c : Operand} {x y : Code} {p : Prop} {_ : Decidable p} (hc : ev E c = some (.bool (decide p))) (ht : p → x.wp P Q a w) (hf : ¬ p → y.wp P Q a w) : (Code.cond c x y).wp P Q a w :=
  wp_cond_split (h.1.ev hc) (fun h => ht (of_decide_eq_true h)) (fun h => hf (of_decide_eq_false h))
theorem c_true (h : St n s a w E L) {c : Operand} {x y : Code} (hc : ev E c = some (.bool true)) (ht : x.wp P Q a w) : (Code.cond c x y).wp P Q a w :=
  wp_cond_true (h.1.ev hc) ht
theorem c_false (h : St n s a w E L) {c : Operand} {x y : Code} (hc : ev E c = some (.bool false)) (ht : y.wp P Q a w) : (Code.cond c x y).wp P Q a w :=
  wp_cond_false (h.1.ev hc) ht

/-- a loop, by a state x of which the slots, the items and a measure are told -/
theorem c_loop {X : Type} {c : Code} (E' : X → List (Nat × Value)) (L' : X → List HItem) (φ : X → Prop) (m : X → Nat) (x : X) (h : St n s a w (E' x) (L' x)) (h0 : φ x)
    (round : ∀ x a w, φ x → St n s a w (E' x) (L' x) → c.wp P (Exit.then (fun a' w' => ∃ x', St n s a' w' (E' x') (L' x') ∧ φ x' ∧ m x' < m x) Q) a w) : (Code.loop c).wp P Q a w := by
  intro b k cs
  have key : ∀ j x a w, m x = j → φ x → St n s a w (E' x) (L' x) →
      ∃ e a' w', Q e a' w' ∧ Arrives P (lone (b.at a (.code c :: .inLoop c :: k)) cs w) b k cs e a' w' := by
    intro j
    induction j using Nat.strongRecOn with
    | _ j ih =>
      intro x a w hm hφ hS
      obtain ⟨e, a1, w1, hq, harr⟩ := round x a w hφ hS b (.inLoop c :: k) cs
      cases e with
      | normal =>
        obtain ⟨x', hS', hφ', hlt⟩ := hq
        obtain ⟨e2, a2, w2, hq2, harr2⟩ := ih (m x') (hm ▸ hlt) x' a1 w1 rfl hφ' hS'
        exact ⟨e2, a2, w2, hq2, .of_steps (Steps.trans harr (.one step_inLoop)) harr2⟩
      | exit id => exact ⟨_, a1, w1, hq, .pass (x := .inLoop c) rfl (fun _ _ => .inl (by simp)) harr⟩
      | goto l => exact ⟨_, a1, w1, hq, .pass (x := .inLoop c) rfl (fun _ _ => .inl (by simp)) harr⟩
      | ret => exact ⟨_, a1, w1, hq, .pass (x := .inLoop c) rfl (fun _ _ => .inl (by simp)) harr⟩
      | panic ch => exact ⟨_, a1, w1, hq, .pass (x := .inLoop c) rfl (fun _ _ => .inl (by simp)) harr⟩
      | outgrown => exact ⟨_, a1, w1, hq, .pass (x := .inLoop c) rfl (fun _ _ => .inl (by simp)) harr⟩
  obtain ⟨e, a', w', hq, harr⟩ := key _ x a w rfl h0 h
  exact ⟨e, a', w', hq, .of_steps (.one step_loop) harr⟩

end
end Go.Sl
