/- A small library for walks, part H: guards and drawn regions. No statement is proved here. -/
import Derived.Test.YtfhlbfalgdipiaaDoorSlG
import Derived.Deep.Quiet
set_option linter.unusedVariables false
set_option linter.unusedSimpArgs false
namespace Go.Sl

/-- what operation j of a region has yielded, for the guards -/
def gv (ops : Array Oper) (E : List (Nat × Value)) (j : Nat) : Option Bool :=
  match ops[j]? with
  | some o => match o.dst with
    | some t => match lk E t with
      | some (.bool b) => some b
      | _ => none
    | none => none
  | none => none

theorem gv_yielded {n : Nat} {a : Act} {E : List (Nat × Value)} (h : Env n a E) {ops : Array Oper} {j : Nat} {b : Bool} (hg : gv ops E j = some b) : yielded ops a.tmps j = some b := by
  unfold gv at hg
  split at hg
  · rename_i o ho
    split at hg
    · rename_i t ht
      split at hg
      · rename_i b' hb
        cases hg
        have := h.2.2 t _ hb
        simp [yielded, ho, ht, this]
      · cases hg
    · cases hg
  · cases hg

/-- it hasn't yielded this -/
def gvNot (ops : Array Oper) (E : List (Nat × Value)) (j : Nat) (b : Bool) : Bool :=
  match ops[j]? with
  | some o => match o.dst with
    | some t => match lk E t with
      | some (.bool b') => b' != b
      | some _ => true
      | none => false
    | none => false
  | none => false

theorem gvNot_wanted {n : Nat} {a : Act} {E : List (Nat × Value)} (h : Env n a E) {ops : Array Oper} {j : Nat} {b : Bool} (hg : gvNot ops E j b = true) : (yielded ops a.tmps j == some b) = false := by
  unfold gvNot at hg
  split at hg
  · rename_i o ho
    split at hg
    · rename_i t ht
      split at hg
      · rename_i b' hb
        have := h.2.2 t _ hb
        simp only [yielded, ho, ht, Option.bind_some, this]
        cases b <;> cases b' <;> simp_all
      · rename_i v hv hb
        have h2 := h.2.2 t _ hb
        have : yielded ops a.tmps j = none := by
          simp only [yielded, ho, ht, Option.bind_some, h2]
          try simp only [Option.bind_some]
          split
          · rename_i e; simp_all
          · rfl
        rw [this]; rfl
      · cases hg
    · cases hg
  · cases hg

section
variable {P : Program} {n : Nat} {s w : World} {a : Act} {E : List (Nat × Value)} {L : List HItem} {Q : Exit → Act → World → Prop} {next : Act → World → Prop}
variable {d : Nat} {ty : TypeId} {pos : String} {aft : Array Edge} {ops : Array Oper} {rest : List Oper} {op : Op} {v : Value}

/-- one operation that leaves the world alone -/
theorem wv (h : St n s a w E L) (hr : (execOp a.eval (Oper.mk (some d) op ty pos aft none)).run P w = .ok (.value v) w) (hd : Nat.blt d n = true)
    (k : ∀ a w, St n s a w ((d, v) :: E) L → wpList P ops Q rest a w) : wpList P ops Q (Oper.mk (some d) op ty pos aft none :: rest) a w :=
  wl rfl (op_run h hr hd h.2 k)
/-- a guarded one that is wanted -/
theorem wlg {o : Oper} (h : St n s a w E L) {j : Nat} {b : Bool} (hg : o.guard = some (j, b)) (hj : gv ops E j = some b) (hh : o.wp P a w (wpList P ops Q rest) Q) : wpList P ops Q (o :: rest) a w := by
  unfold wpList
  rw [if_pos (by simp [Region.wanted, hg, gv_yielded h.1 hj])]
  exact .inl hh
theorem wvg (h : St n s a w E L) {j : Nat} {b : Bool} (hr : (execOp a.eval (Oper.mk (some d) op ty pos aft (some (j, b)))).run P w = .ok (.value v) w) (hj : gv ops E j = some b) (hd : Nat.blt d n = true)
    (k : ∀ a w, St n s a w ((d, v) :: E) L → wpList P ops Q rest a w) : wpList P ops Q (Oper.mk (some d) op ty pos aft (some (j, b)) :: rest) a w :=
  wlg h rfl hj (op_run h hr hd h.2 k)
/-- a guarded one that is passed by -/
theorem wvs (h : St n s a w E L) {j : Nat} {b : Bool} (hj : gvNot ops E j b = true) (hd : Nat.blt d n = true)
    (k : ∀ a w, St n s a w ((d, undef) :: E) L → wpList P ops Q rest a w) : wpList P ops Q (Oper.mk (some d) op ty pos aft (some (j, b)) :: rest) a w := by
  unfold wpList
  rw [if_neg (by simp only [Region.wanted]; rw [gvNot_wanted h.1 hj]; simp)]
  exact k _ _ ⟨h.1.put hd _, h.2⟩

/-! a region that draws its order, whose operations keep the items -/
variable {QQ : Act → Prop}
theorem qv (hE : Env n a E) (hr : ∀ w, Sat s w L → (execOp a.eval (Oper.mk (some d) op ty pos aft none)).run P w = .ok (.value v) w) (hd : Nat.blt d n = true)
    (k : ∀ a, Env n a ((d, v) :: E) → wpQuiet P ops (fun w => Sat s w L) QQ rest a) : wpQuiet P ops (fun w => Sat s w L) QQ (Oper.mk (some d) op ty pos aft none :: rest) a := by
  unfold wpQuiet
  rw [if_pos (by simp [Region.wanted])]
  refine ⟨v, fun w hw => ?_, k _ (hE.put hd v)⟩
  unfold Oper.quietAt
  rw [hr w hw]
  exact ⟨rfl, rfl⟩
theorem qvg (hE : Env n a E) {j : Nat} {b : Bool} (hr : ∀ w, Sat s w L → (execOp a.eval (Oper.mk (some d) op ty pos aft (some (j, b)))).run P w = .ok (.value v) w) (hj : gv ops E j = some b) (hd : Nat.blt d n = true)
    (k : ∀ a, Env n a ((d, v) :: E) → wpQuiet P ops (fun w => Sat s w L) QQ rest a) : wpQuiet P ops (fun w => Sat s w L) QQ (Oper.mk (some d) op ty pos aft (some (j, b)) :: rest) a := by
  unfold wpQuiet
  rw [if_pos (by simp [Region.wanted, gv_yielded hE hj])]
  refine ⟨v, fun w hw => ?_, k _ (hE.put hd v)⟩
  unfold Oper.quietAt
  rw [hr w hw]
  exact ⟨rfl, rfl⟩
theorem qvs (hE : Env n a E) {j : Nat} {b : Bool} (hj : gvNot ops E j b = true) (hd : Nat.blt d n = true)
    (k : ∀ a, Env n a ((d, undef) :: E) → wpQuiet P ops (fun w => Sat s w L) QQ rest a) : wpQuiet P ops (fun w => Sat s w L) QQ (Oper.mk (some d) op ty pos aft (some (j, b)) :: rest) a := by
  unfold wpQuiet
  rw [if_neg (by simp only [Region.wanted]; rw [gvNot_wanted hE hj]; simp)]
  exact k _ (hE.put hd _)
theorem q_call (hE : Env n a E) {f : FuncId} {xs : List Operand} {ats : Array TypeId} {vs : List Value} (hx : evs E xs = some vs) (hf : isGo P f = true)
    (hc : ∀ w, Sat s w L → Calls P f vs.toArray w (fun e w' => e = .returned v ∧ Sat s w' L)) (hd : Nat.blt d n = true)
    (k : ∀ a, Env n a ((d, v) :: E) → wpQuiet P ops (fun w => Sat s w L) QQ rest a) : wpQuiet P ops (fun w => Sat s w L) QQ (Oper.mk (some d) (.call { callee := .value (.func f), args := xs.toArray, argTypes := ats }) ty pos aft none :: rest) a := by
  unfold wpQuiet
  rw [if_pos (by simp [Region.wanted])]
  refine ⟨v, fun w hw => ?_, k _ (hE.put hd v)⟩
  have he : (execOp a.eval (Oper.mk (some d) (.call { callee := .value (.func f), args := xs.toArray, argTypes := ats }) ty pos aft none)).run P w = .ok (.enter f vs.toArray) w := by
    have : execOp a.eval (Oper.mk (some d) (.call { callee := .value (.func f), args := xs.toArray, argTypes := ats }) ty pos aft none) = callFunc f (#[] ++ xs.toArray.map a.eval ++ #[]) := rfl
    rw [this, run_callFunc_go hf]
    simp [hE.evs hx]
  unfold Oper.quietAt
  rw [he]
  exact ⟨rfl, hc w hw⟩
theorem q_callg (hE : Env n a E) {j : Nat} {b : Bool} {f : FuncId} {xs : List Operand} {ats : Array TypeId} {vs : List Value} (hx : evs E xs = some vs) (hf : isGo P f = true)
    (hc : ∀ w, Sat s w L → Calls P f vs.toArray w (fun e w' => e = .returned v ∧ Sat s w' L)) (hj : gv ops E j = some b) (hd : Nat.blt d n = true)
    (k : ∀ a, Env n a ((d, v) :: E) → wpQuiet P ops (fun w => Sat s w L) QQ rest a) : wpQuiet P ops (fun w => Sat s w L) QQ (Oper.mk (some d) (.call { callee := .value (.func f), args := xs.toArray, argTypes := ats }) ty pos aft (some (j, b)) :: rest) a := by
  unfold wpQuiet
  rw [if_pos (by simp [Region.wanted, gv_yielded hE hj])]
  refine ⟨v, fun w hw => ?_, k _ (hE.put hd v)⟩
  have he : (execOp a.eval (Oper.mk (some d) (.call { callee := .value (.func f), args := xs.toArray, argTypes := ats }) ty pos aft (some (j, b)))).run P w = .ok (.enter f vs.toArray) w := by
    have : execOp a.eval (Oper.mk (some d) (.call { callee := .value (.func f), args := xs.toArray, argTypes := ats }) ty pos aft (some (j, b))) = callFunc f (#[] ++ xs.toArray.map a.eval ++ #[]) := rfl
    rw [this, run_callFunc_go hf]
    simp [hE.evs hx]
  unfold Oper.quietAt
  rw [he]
  exact ⟨rfl, hc w hw⟩
theorem qnil (hE : Env n a E) (h : ∀ a w', St n s a w' E L → Q .normal a w') : wpQuiet P ops (fun w => Sat s w L) (fun a' => ∀ w', Sat s w' L → Q .normal a' w') [] a :=
  fun w' hw' => h a w' ⟨hE, hw'⟩
theorem c_draw {id : Nat} {l : List Oper} (hm : P.follows .mixedOrders = true) (hB : Region.lexB .any l.toArray = true) (h : St n s a w E L)
    (k : ∀ a, Env n a E → wpQuiet P l.toArray (fun w => Sat s w L) (fun a' => ∀ w', Sat s w' L → Q .normal a' w') l a) : (Code.region id l.toArray true).wp P Q a w :=
  wp_region_quiet (C := fun w => Sat s w L) hm hB (h.2.congr rfl rfl rfl rfl) (by simpa using k a h.1)

/-- a contract whose answer is one value, and that keeps the items, as a drawn region wants it -/
theorem Ret.keeps {X : Type} {r : X → Value} {L' : X → List HItem} {φ : X → Prop} {f : FuncId} {args : Array Value} (hc : Calls P f args w (Ret s r L' φ)) (hr : ∀ x, φ x → r x = v) (hL : ∀ x w', Sat s w' (L' x) → Sat s w' L) :
    Calls P f args w (fun e w' => e = .returned v ∧ Sat s w' L) :=
  hc.mono fun e w' ⟨x, he, hs, hφ⟩ => ⟨by rw [he, hr x hφ], hL x w' hs⟩
theorem Ret.gives {X : Type} {r : X → Value} {L' : X → List HItem} {φ : X → Prop} {f : FuncId} {args : Array Value} {Y : Type} {r' : Y → Value} {M : Y → List HItem} {ψ : Y → Prop} (hc : Calls P f args w (Ret s r L' φ))
    (hy : ∀ x, φ x → ∃ y, r x = r' y ∧ ψ y ∧ ∀ w', Sat s w' (L' x) → Sat s w' (M y)) : Calls P f args w (Ret s r' M ψ) :=
  hc.mono fun e w' ⟨x, he, hs, hφ⟩ => let ⟨y, h1, h2, h3⟩ := hy x hφ; ⟨y, by rw [he, h1], h3 _ hs, h2⟩

/-! exits -/
theorem e_then {K : Act → World → Prop} {i : Nat} (h : Q (.exit i) a w) : Exit.then K Q (.exit i) a w := h
theorem e_here {i : Nat} (h : Q .normal a w) : Exit.inBlock i Q (.exit i) a w := by simpa [Exit.inBlock] using h
theorem e_up {i j : Nat} (hne : Nat.beq j i = false) (h : Q (.exit j) a w) : Exit.inBlock i Q (.exit j) a w := by
  have : j ≠ i := Nat.ne_of_beq_eq_false hne
  simpa [Exit.inBlock, this] using h
theorem b_normal {i : Nat} (h : Q .normal a w) : Exit.inBlock i Q .normal a w := h
/-- where ways meet again: a state that tells all -/
theorem c_meet (_h : St n s a w E L) {X : Type} {x y : Code} (E' : X → List (Nat × Value)) (L' : X → List HItem) (φ : X → Prop)
    (hx : x.wp P (Exit.then (fun a w => ∃ z, St n s a w (E' z) (L' z) ∧ φ z) Q) a w) (hy : ∀ z a w, φ z → St n s a w (E' z) (L' z) → y.wp P Q a w) : (Code.seq x y).wp P Q a w := by
  refine wp_seq (wp_mono hx ?_)
  intro e a' w' hq
  cases e <;> first | exact hq | (obtain ⟨z, hS, hz⟩ := hq; exact hy z _ _ hz hS)
end
end Go.Sl
