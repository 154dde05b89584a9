/- Rounds of a range over a function, in the words of the small library: code that is walked in a round's frame, or in a frame that bears a mark. No statement is proved here. -/
import Derived.Test.YtnplbpmdehcknaaSl
import Derived.RangeFuncRecord
import Derived.TacticsIn
import Derived.RangeFuncSeq
set_option linter.unusedVariables false
set_option linter.unusedSimpArgs false
namespace Go.Sl

/-- the widest fence, for a round's frames or plain ones -/
def Fr (o : Option Nat) : Fence := { Fence.wide with round := o }
theorem fr_none : Fr none = Fence.wide := rfl
theorem fr_some (l : Nat) : Fr (some l) = Fence.wide.inRound l := rfl

/-- the frame that bears the deferred calls ds too -/
def dd (ds : List Deferred) (a : Act) : Act := { a with defers := ds }
theorem dd_nil {n : Nat} {a : Act} {E : List (Nat × Value)} (h : Env n a E) : dd [] a = a := by
  cases a; have := h.2.1; simp at this; subst this; rfl
theorem dd_put (ds : List Deferred) (a : Act) (d : Option Nat) (v : Value) : dd ds (a.put d v) = (dd ds a).put d v := by cases d <;> rfl
theorem dd_eval (ds : List Deferred) (a : Act) : (dd ds a).eval = a.eval := rfl

/-- a walk in a frame of round o (or a plain one) that bears ds -/
def RW (o : Option Nat) (ds : List Deferred) (P : Program) (c : Code) (Q : Exit → Act → World → Prop) (a : Act) (w : World) : Prop := c.wpIn (Fr o) 0 P Q (dd ds a) w
/-- the operations of a region, from one on -/
def LR (o : Option Nat) (ds : List Deferred) (P : Program) (ops : Array Oper) (Q : Exit → Act → World → Prop) (l : List Oper) (a : Act) (w : World) : Prop :=
  a.defers = [] ∧ wpListIn (Fr o) 0 P ops Q l (dd ds a) w

def notDefer : Op → Bool
  | .defer _ => false
  | _ => true

namespace R
variable {P : Program} {n : Nat} {s w : World} {a : Act} {E : List (Nat × Value)} {L : List HItem} {Q : Exit → Act → World → Prop} {o : Option Nat} {ds : List Deferred}
variable {d : Nat} {ty : TypeId} {pos : String} {aft : Array Edge} {ops : Array Oper} {rest : List Oper} {op : Op} {v : Value}

/-! ### code -/
theorem c_seq {x y : Code} (h : RW o ds P x (Exit.then (y.wpIn (Fr o) 0 P Q) Q) a w) : RW o ds P (Code.seq x y) Q a w := wpIn_seq h
theorem c_then {y : Code} (h : RW o ds P y Q a w) : Exit.then (y.wpIn (Fr o) 0 P Q) Q .normal (dd ds a) w := h
theorem c_skip (h : Q .normal (dd ds a) w) : RW o ds P Code.skip Q a w := wpIn_skip h
theorem c_ret (h : Q .ret (dd ds a) w) : RW o ds P Code.ret Q a w := wpIn_ret h
theorem c_exit {i : Nat} (h : Q (.exit i) (dd ds a) w) : RW o ds P (Code.exit i) Q a w := wpIn_exit h
theorem c_block {i : Nat} {c : Code} (h : RW o ds P c (Exit.inBlock i Q) a w) : RW o ds P (Code.block i c) Q a w := wpIn_block h
theorem c_cond (h : St n s a w E L) {c : Operand} {x y : Code} {t : Bool} (hc : ev E c = some (.bool t)) (ht : t = true → RW o ds P x Q a w) (hf : t = false → RW o ds P y Q a w) : RW o ds P (Code.cond c x y) Q a w :=
  wpIn_cond_split (t := t) (by rw [dd_eval]; exact h.1.ev hc) ht hf
theorem c_condD (h : St n s a w E L) {c : Operand} {x y : Code} {p : Prop} {_ : Decidable p} (hc : ev E c = some (.bool (decide p))) (ht : p → RW o ds P x Q a w) (hf : ¬ p → RW o ds P y Q a w) : RW o ds P (Code.cond c x y) Q a w :=
  c_cond h hc (fun h => ht (of_decide_eq_true h)) (fun h => hf (of_decide_eq_false h))
theorem c_condP (h : St n s a w E L) {c : Operand} {x y : Code} {t : Bool} {p : Prop} (hc : ev E c = some (.bool t)) (hp : t = true ↔ p) (ht : p → RW o ds P x Q a w) (hf : ¬ p → RW o ds P y Q a w) : RW o ds P (Code.cond c x y) Q a w :=
  c_cond h hc (fun e => ht (hp.1 e)) (fun e => hf (fun q => by rw [hp.2 q] at e; cases e))
theorem c_true (h : St n s a w E L) {c : Operand} {x y : Code} (hc : ev E c = some (.bool true)) (ht : RW o ds P x Q a w) : RW o ds P (Code.cond c x y) Q a w :=
  c_cond h hc (fun _ => ht) (fun h => by cases h)
theorem c_false (h : St n s a w E L) {c : Operand} {x y : Code} (hc : ev E c = some (.bool false)) (ht : RW o ds P y Q a w) : RW o ds P (Code.cond c x y) Q a w :=
  c_cond h hc (fun h => by cases h) (fun _ => ht)
theorem c_region {id : Nat} {l : List Oper} (h : LR o ds P l.toArray Q l a w) : RW o ds P (Code.region id l.toArray false) Q a w := wpIn_region_lit h.2
theorem e_then {K : Act → World → Prop} {i : Nat} (h : Q (.exit i) (dd ds a) w) : Exit.then K Q (.exit i) (dd ds a) w := h
theorem e_thenr {K : Act → World → Prop} (h : Q .ret (dd ds a) w) : Exit.then K Q .ret (dd ds a) w := h
theorem e_blockr {i : Nat} (h : Q .ret (dd ds a) w) : Exit.inBlock i Q .ret (dd ds a) w := h
theorem e_here {i : Nat} (h : Q .normal (dd ds a) w) : Exit.inBlock i Q (.exit i) (dd ds a) w := Sl.e_here h
theorem e_up {i j : Nat} (hne : Nat.beq j i = false) (h : Q (.exit j) (dd ds a) w) : Exit.inBlock i Q (.exit j) (dd ds a) w := Sl.e_up hne h
theorem b_normal {i : Nat} (h : Q .normal (dd ds a) w) : Exit.inBlock i Q .normal (dd ds a) w := h

/-- a state that tells all, of the frame without its deferred calls -/
def At (n : Nat) (s : World) (ds : List Deferred) (a : Act) (w : World) (E : List (Nat × Value)) (L : List HItem) : Prop := ∃ a0, a = dd ds a0 ∧ St n s a0 w E L
theorem at_ (h : St n s a w E L) : At n s ds (dd ds a) w E L := ⟨a, rfl, h⟩

theorem c_loop {X : Type} {c : Code} (E' : X → List (Nat × Value)) (L' : X → List HItem) (φ : X → Prop) (m : X → Nat) (x : X) (h : St n s a w (E' x) (L' x)) (h0 : φ x)
    (round : ∀ x a w, φ x → St n s a w (E' x) (L' x) → RW o ds P c (Exit.then (fun a' w' => ∃ x', At n s ds a' w' (E' x') (L' x') ∧ φ x' ∧ m x' < m x) Q) a w) : RW o ds P (Code.loop c) Q a w := by
  intro b k cs hro hb hr
  have key : ∀ j x a w, m x = j → φ x → St n s a w (E' x) (L' x) →
      ∃ e a' w', Q e a' w' ∧ ArrivesIn (Machine.fenced P (Fr o)) P (lone (b.atR (dd ds a) (.code c :: .inLoop c :: k)) cs w) b k cs e a' w' := by
    intro j
    induction j using Nat.strongRecOn with
    | _ j ih =>
      intro x a w hm hφ hS
      obtain ⟨e, a1, w1, hq, harr⟩ := round x a w hφ hS b (.inLoop c :: k) cs hro hb hr
      cases e with
      | normal =>
        obtain ⟨x', ⟨a0, rfl, hS'⟩, hφ', hlt⟩ := hq
        obtain ⟨e2, a2, w2, hq2, harr2⟩ := ih (m x') (hm ▸ hlt) x' a0 w1 rfl hφ' hS'
        exact ⟨e2, a2, w2, hq2, .of_steps (StepsIn.trans harr (.one (fenced_calm hb hr rfl) stepR_inLoop)) harr2⟩
      | exit id => exact ⟨_, a1, w1, hq, .pass (x := .inLoop c) rfl (fun _ _ => .inl (by simp)) harr⟩
      | goto l => exact ⟨_, a1, w1, hq, .pass (x := .inLoop c) rfl (fun _ _ => .inl (by simp)) harr⟩
      | ret => exact ⟨_, a1, w1, hq, .pass (x := .inLoop c) rfl (fun _ _ => .inl (by simp)) harr⟩
      | panic ch => exact ⟨_, a1, w1, hq, .pass (x := .inLoop c) rfl (fun _ _ => .inl (by simp)) harr⟩
      | outgrown => exact ⟨_, a1, w1, hq, .pass (x := .inLoop c) rfl (fun _ _ => .inl (by simp)) harr⟩
  obtain ⟨e, a', w', hq, harr⟩ := key _ x a w rfl h0 h
  exact ⟨e, a', w', hq, .of_steps (.one (fenced_calm hb hr rfl) stepR_loop) harr⟩

theorem c_meet (_h : St n s a w E L) {X : Type} {x y : Code} (E' : X → List (Nat × Value)) (L' : X → List HItem) (φ : X → Prop)
    (hx : RW o ds P x (Exit.then (fun a w => ∃ z, At n s ds a w (E' z) (L' z) ∧ φ z) Q) a w) (hy : ∀ z a w, φ z → St n s a w (E' z) (L' z) → RW o ds P y Q a w) : RW o ds P (Code.seq x y) Q a w := by
  refine wpIn_seq (wpIn_mono hx ?_)
  intro e a' w' hq
  cases e <;> first | exact hq | (obtain ⟨z, ⟨a0, rfl, hS⟩, hz⟩ := hq; exact hy z _ _ hz hS)

/-! ### operations -/
theorem wnil (h : St n s a w E L) (k : Q .normal (dd ds a) w) : LR o ds P ops Q [] a w := ⟨h.1.2.1, k⟩

theorem upon_in {ob : Oper} {next next' : Act → World → Prop} {r : Result Next} (hn : ∀ a w, next a w → a.defers = [] ∧ next' (dd ds a) w) (hd : a.defers = [])
    (h : ob.upon P a next (fun _ _ _ => False) r) : ob.uponIn (Fr o) 0 P (dd ds a) next' Q r := by
  unfold Oper.upon at h
  unfold Oper.uponIn
  split at h
  · have := (hn _ _ h).2; rw [dd_put] at this; exact this
  · have := (hn _ _ h).2; rw [dd_put] at this; exact this
  · have := (hn _ _ h).1
    cases hh : ob.dst <;> simp [hh, Act.put] at this
  · refine ⟨fun h => (by cases h), ?_⟩
    show CallsIn Fence.wide _ P _ _ _ _
    refine callsIn_wide.2 (h.mono fun e w' hq => ?_)
    cases e with
    | returned v => have := (hn _ _ hq).2; rw [dd_put] at this; exact this
    | panicked chain => exact hq.elim
    | outgrown => obtain ⟨_, _, hq⟩ := hq; exact hq.elim
  · refine ⟨fun h => (by cases h), fun c cs _ => ?_⟩
    obtain ⟨v, w', hq, hs⟩ := h c cs
    refine ⟨v, w', ?_, stepsIn_wide.2 hs⟩
    have := (hn _ _ hq).2; rw [dd_put] at this; exact this
  · exact h.elim
  · exact h.elim

theorem wp_in {ob : Oper} {next next' : Act → World → Prop} (hn : ∀ a w, next a w → a.defers = [] ∧ next' (dd ds a) w) (hd : a.defers = []) (hnd : notDefer ob.op = true)
    (h : ob.wp P a w next (fun _ _ _ => False)) : ob.wpIn (Fr o) 0 P (dd ds a) w next' Q := by
  refine ⟨fun _ _ => trivial, ?_⟩
  rw [Oper.semAt_eq _ _ _ (fun c hc => by rw [hc] at hnd; cases hnd), dd_eval]
  exact upon_in hn hd h

/-- one operation -/
theorem wl (h : St n s a w E L) {ob : Oper} (hg : ob.guard = none) (hnd : notDefer ob.op = true) (hh : ob.wp P a w (LR o ds P ops Q rest) (fun _ _ _ => False)) : LR o ds P ops Q (ob :: rest) a w := by
  refine ⟨h.1.2.1, ?_⟩
  unfold wpListIn
  rw [if_pos (by simp [Region.wanted, hg])]
  exact wp_in (fun _ _ h => h) h.1.2.1 hnd hh
theorem wlg (h : St n s a w E L) {ob : Oper} {j : Nat} {b : Bool} (hg : ob.guard = some (j, b)) (hj : gv ops E j = some b) (hnd : notDefer ob.op = true) (hh : ob.wp P a w (LR o ds P ops Q rest) (fun _ _ _ => False)) : LR o ds P ops Q (ob :: rest) a w := by
  refine ⟨h.1.2.1, ?_⟩
  unfold wpListIn
  rw [if_pos (by simp only [Region.wanted, hg]; show (yielded ops a.tmps j == some b) = true; rw [gv_yielded h.1 hj]; simp)]
  exact wp_in (fun _ _ h => h) h.1.2.1 hnd hh
theorem wv (h : St n s a w E L) (hr : (execOp a.eval (Oper.mk (some d) op ty pos aft none)).run P w = .ok (.value v) w) (hd : Nat.blt d n = true)
    (k : ∀ a w, St n s a w ((d, v) :: E) L → LR o ds P ops Q rest a w) (hnd : notDefer op = true := by rfl) : LR o ds P ops Q (Oper.mk (some d) op ty pos aft none :: rest) a w :=
  wl h rfl hnd (op_run h hr hd h.2 k)
theorem wvG (h : St n s a w E L) {j : Nat} {b g : Bool} (hg : Wants ops E j b g) (hr : g = true → (execOp a.eval (Oper.mk (some d) op ty pos aft (some (j, b)))).run P w = .ok (.value v) w) (hd : Nat.blt d n = true)
    (k : ∀ a w, St n s a w ((d, gval g v) :: E) L → LR o ds P ops Q rest a w) (hnd : notDefer op = true := by rfl) : LR o ds P ops Q (Oper.mk (some d) op ty pos aft (some (j, b)) :: rest) a w := by
  have hw := hg.wanted h.1
  cases hgg : g with
  | true =>
    subst hgg
    refine ⟨h.1.2.1, ?_⟩
    unfold wpListIn
    rw [if_pos (by simp only [Region.wanted]; exact hw)]
    exact wp_in (fun _ _ h => h) h.1.2.1 hnd (op_run h (hr rfl) hd h.2 k)
  | false =>
    subst hgg
    refine ⟨h.1.2.1, ?_⟩
    unfold wpListIn
    rw [if_neg (by simp only [Region.wanted]; show ¬ (yielded ops a.tmps j == some b) = true; rw [hw]; simp)]
    refine ⟨fun _ _ => trivial, ?_⟩
    have := (k (a.put (some d) undef) w ⟨h.1.put hd _, h.2⟩).2
    rw [dd_put] at this; exact this
theorem wvS (h : St n s a w E L) {j : Nat} {b g : Bool} (hg : Wants ops E j b g) (hf : g = false) (hd : Nat.blt d n = true)
    (k : ∀ a w, St n s a w ((d, undef) :: E) L → LR o ds P ops Q rest a w) : LR o ds P ops Q (Oper.mk (some d) op ty pos aft (some (j, b)) :: rest) a w := by
  have hw := hg.wanted h.1
  subst hf
  refine ⟨h.1.2.1, ?_⟩
  unfold wpListIn
  rw [if_neg (by simp only [Region.wanted]; show ¬ (yielded ops a.tmps j == some b) = true; rw [hw]; simp)]
  refine ⟨fun _ _ => trivial, ?_⟩
  have := (k (a.put (some d) undef) w ⟨h.1.put hd _, h.2⟩).2
  rw [dd_put] at this; exact this

/-- a plain frame: code that is walked as everywhere -/
theorem of_wp {c : Code} (h : St n s a w E L) (k : c.wp P Q a w) : RW none [] P c Q a w := by
  unfold RW
  rw [dd_nil h.1]
  exact wpIn_wide.2 k

/-- a call of yield -/
theorem wyield (h : St n s a w E L) {f : Operand} {l : Nat} {xs : List Operand} {ats : Array TypeId} {vs : List Value} {X : Type} {r : X → Value} {L' : X → List HItem} {φ : X → Prop}
    (hf : ev E f = some (.func (.yield l) #[] #[])) (hx : evs E xs = some vs) (hd : Nat.blt d n = true) (hc : YieldAt Fence.wide 0 P l vs.toArray w (Ret s r L' φ))
    (k : ∀ x a w, φ x → St n s a w ((d, r x) :: E) (L' x) → LR o ds P ops Q rest a w) :
    LR o ds P ops Q (Oper.mk (some d) (.call { callee := .value f, args := xs.toArray, argTypes := ats }) ty pos aft none :: rest) a w := by
  refine ⟨h.1.2.1, ?_⟩
  unfold wpListIn
  rw [if_pos (by simp [Region.wanted])]
  refine ⟨fun _ _ => trivial, ?_⟩
  obtain ⟨fn, tmps, asg, bdy, hy, hR⟩ := hc
  have he : (Oper.semAt (Fr o).round (dd ds a).eval (Oper.mk (some d) (.call { callee := .value f, args := xs.toArray, argTypes := ats }) ty pos aft none)).run P w = .ok (.round l fn tmps asg bdy) w := by
    rw [Oper.semAt_eq _ _ _ (fun c hc => by cases hc), dd_eval]
    simp [execOp, resolve, invoke, Deferred.ofValue, h.1.ev hf, h.1.evs hx, hy]
  rw [he]
  refine ⟨fun h => (by cases h), ?_⟩
  show RoundIn Fence.wide _ P _ _ _ _ _ _ _
  refine hR.mono ?_
  rintro e w' ⟨x, rfl, hs, hφ⟩
  have := (k x _ _ hφ ⟨h.1.put hd (r x), hs⟩).2
  rw [dd_put] at this; exact this
end R
end Go.Sl
namespace Go.Sl

theorem Sat.sepN {s w : World} {L : List HItem} (k : Nat) (h : Sat s w L) : Sat s w (Sep (L.take k) :: L.drop k) := Sat.sep (by rw [List.take_append_drop]; exact h)
/-- the loop's record: its state, the pending jump; what the frame's slots held -/
def LpI (l : Nat) (st : LoopState) (pe : Option Code) (n : Nat) (E : List (Nat × Value)) (ps : Array Tmp) (asg bdy : Code) : HItem :=
  ⟨fun h => ∃ (fn : FuncId) (T : Array Value) (D : Nat), Env n ⟨T, []⟩ E ∧ h l = some (.loop { state := st, pending := pe, fn := fn, tmps := T, params := ps, assign := asg, body := bdy, defers := D }),
   fun _ _ hl ⟨fn, T, D, h1, h2⟩ => ⟨fn, T, D, h1, hl _ _ h2⟩⟩

theorem Sat.lpi {s w : World} {L : List HItem} (hs : Sat s w L) (i : Nat) {l : Nat} {st : LoopState} {pe : Option Code} {n : Nat} {E : List (Nat × Value)} {ps : Array Tmp} {asg bdy : Code}
    (hi : L[i]? = some (LpI l st pe n E ps asg bdy)) : ∃ (fn : FuncId) (T : Array Value) (D : Nat), Env n ⟨T, []⟩ E ∧
      w.heap[l]? = some (.loop { state := st, pending := pe, fn := fn, tmps := T, params := ps, assign := asg, body := bdy, defers := D }) ∧
      ∀ st' pe', Sat s (w.putObj l (.loop { state := st', pending := pe', fn := fn, tmps := T, params := ps, assign := asg, body := bdy, defers := D })) (L.set i (LpI l st' pe' n E ps asg bdy)) := by
  have hf := hs.front i hi
  obtain ⟨h1, h2, h3, D0, ⟨fn, T, D, hE, hb⟩, hL⟩ := hf
  have hil : i < L.length := (List.getElem?_eq_some_iff.1 hi).1
  have hb' : w.heap[l]? = some (.loop { state := st, pending := pe, fn := fn, tmps := T, params := ps, assign := asg, body := bdy, defers := D }) := restr_le _ _ hb
  refine ⟨fn, T, D, hE, hb', fun st' pe' => ?_⟩
  have hB : Sat s w (Blk l (.loop { state := st, pending := pe, fn := fn, tmps := T, params := ps, assign := asg, body := bdy, defers := D }) :: L.eraseIdx i) := ⟨h1, h2, h3, D0, hb, hL⟩
  have hlt := heap_lt hb'
  have := Sat.turn (o' := .loop { state := st', pending := pe', fn := fn, tmps := T, params := ps, assign := asg, body := bdy, defers := D }) hB
    (w' := w.putObj l (.loop { state := st', pending := pe', fn := fn, tmps := T, params := ps, assign := asg, body := bdy, defers := D })) rfl rfl rfl (World.putObj_heap_same hlt) (fun k hk => World.putObj_heap_other hk)
  obtain ⟨g1, g2, g3, D1, gI, gL⟩ := this
  exact ⟨g1, g2, g3, sepL_set hil ⟨D1, ⟨fn, T, D, hE, gI⟩, gL⟩⟩

namespace R
variable {P : Program} {n : Nat} {s w : World} {a : Act} {E : List (Nat × Value)} {L : List HItem} {Q : Exit → Act → World → Prop} {o : Option Nat} {ds : List Deferred} {next : Act → World → Prop}
variable {d : Nat} {dst : Option Nat} {ty : TypeId} {pos : String} {aft : Array Edge} {g : Option (Nat × Bool)}

/-- a region of a plain frame in which a yield is called -/
theorem c_regionY {id : Nat} {l : List Oper} (h : LR none [] P l.toArray Q l a w) : (Code.region id l.toArray false).wp P Q a w := by
  have := wpIn_region_lit (id := id) h.2
  have e : dd [] a = a := by cases a; have := h.1; simp at this; subst this; rfl
  rw [e] at this
  exact wpIn_wide.1 this

/-! ### rounds -/
/-- the body of a round of loop l, from its start on -/
def Bg (l : Nat) (bdy : Code) (P : Program) (R : Ending → World → Prop) : Act → World → Prop := fun a1 w1 =>
  ∃ w2, (Instr.beginRound l).run P w1 = .ok () w2 ∧ bdy.wpIn (Fence.wide.inRound l) 0 P (roundPost P l R) a1 w2

theorem env_sets {n : Nat} : ∀ (pvs : List (Nat × Value)) (T : Array Value) (E : List (Nat × Value)), pvs.all (fun p => Nat.blt p.1 n) = true → Env n ⟨T, []⟩ E →
    Env n ⟨pvs.foldl (fun t p => t.setIfInBounds p.1 p.2) T, []⟩ (pvs.foldl (fun E p => p :: E) E)
  | [], _, _, _, h => h
  | p :: pvs, T, E, hb, h => by
    simp only [List.all_cons, Bool.and_eq_true] at hb
    exact env_sets pvs _ _ hb.2 (h.put hb.1 p.2)

theorem yieldAt {l : Nat} {ps : Array Tmp} {asg bdy : Code} {vs : List Value} {R : Ending → World → Prop} {pvs : List (Nat × Value)} {E' : List (Nat × Value)}
    (hs : Sat s w L) (i : Nat) (hi : L[i]? = some (LpI l .ready none n E ps asg bdy)) (hsz : vs.toArray.size = ps.size) (hp : (ps.zip vs.toArray).toList = pvs) (hb : pvs.all (fun p => Nat.blt p.1 n) = true)
    (hE' : pvs.foldl (fun E p => p :: E) E = E')
    (k : ∀ a, St n s a w E' L → RW (some l) [] P asg (Exit.then (Bg l bdy P R) (fun _ _ _ => False)) a w) : YieldAt Fence.wide 0 P l vs.toArray w R := by
  obtain ⟨fn, T, D, hE, hb', _⟩ := hs.lpi i hi
  have hy := run_yield (P := P) (args := vs.toArray) hb' hsz
  refine ⟨_, _, _, _, hy, roundIn_of_wpIn (F := Fence.wide) trivial ?_⟩
  have hEnv : Env n ⟨(ps.zip vs.toArray).foldl (fun t (p, v) => t.setIfInBounds p v) T, []⟩ E' := by
    rw [← Array.foldl_toList, hp, ← hE']
    exact env_sets pvs T E hb hE
  exact k _ ⟨hEnv, hs⟩

theorem begin_ {l : Nat} {n0 : Nat} {E0 : List (Nat × Value)} {ps : Array Tmp} {asg bdy bdy' : Code} {R : Ending → World → Prop} (h : St n s a w E L) (i : Nat) (hi : L[i]? = some (LpI l .ready none n0 E0 ps asg bdy'))
    (k : ∀ a w, St n s a w E (L.set i (LpI l .busy none n0 E0 ps asg bdy')) → RW (some l) [] P bdy (roundPost P l R) a w) : Exit.then (Bg l bdy P R) (fun _ _ _ => False) .normal (dd [] a) w := by
  obtain ⟨fn, T, D, hE, hb', hw⟩ := h.2.lpi i hi
  exact ⟨_, run_beginRound hb' rfl, k _ _ ⟨h.1, hw _ _⟩⟩

theorem end_go {l : Nat} {n0 : Nat} {E0 : List (Nat × Value)} {ps : Array Tmp} {asg bdy : Code} {R : Ending → World → Prop} (h : St n s a w E L) (i : Nat) (hi : L[i]? = some (LpI l .busy none n0 E0 ps asg bdy))
    (k : ∀ w, Sat s w (L.set i (LpI l .ready none n0 E0 ps asg bdy)) → R (.returned (.bool true)) w) : roundPost P l R .normal (dd ds a) w := by
  obtain ⟨fn, T, D, hE, hb', hw⟩ := h.2.lpi i hi
  exact ⟨_, _, run_endRound none hb', k _ (hw _ _)⟩

theorem end_ret {l : Nat} {n0 : Nat} {E0 : List (Nat × Value)} {ps : Array Tmp} {asg bdy : Code} {R : Ending → World → Prop} (h : St n s a w E L) (i : Nat) (hi : L[i]? = some (LpI l .busy none n0 E0 ps asg bdy))
    (k : ∀ w, Sat s w (L.set i (LpI l .done (some .ret) n0 E0 ps asg bdy)) → R (.returned (.bool false)) w) : roundPost P l R .ret (dd ds a) w := by
  obtain ⟨fn, T, D, hE, hb', hw⟩ := h.2.lpi i hi
  exact ⟨_, _, run_endRound (some .ret) hb', k _ (hw _ _)⟩

/-! ### the statement -/
def mark (D : Nat) : Deferred := { target := .collected D, args := #[] }

theorem c_range (h : St n s a w E L) {g : Operand} {ps : Array Tmp} {asg bdy : Code} {gf : FuncId} {lb : Array Value} (hg : ev E g = some (.func (.func gf) #[] lb)) (hgo : isGo P gf = true)
    {X : Type} (st : X → LoopState) (pend : X → Option Code) (L' : X → List HItem) (φ : X → Prop) (hst : ∀ x, st x ≠ .busy)
    (hc : ∀ (l D : Nat) (w1 : World) (Lp : LoopState → Option Code → HItem), Lp = (fun st pe => LpI l st pe n E ps asg bdy) → Sat s w1 (Lp .ready none :: Blk D (.deferred (some [])) :: L) →
      Calls P gf (#[.func (.yield l) #[] #[]] ++ lb) w1 (fun e w3 => (∃ v, e = .returned v) ∧ ∃ x, φ x ∧ Sat s w3 (Lp (st x) (pend x) :: Blk D (.deferred (some [])) :: L' x)))
    (k : ∀ x D a w, φ x → St n s a w E (Blk D (.deferred (some [])) :: L' x) → (match pend x with | none => Q .normal (dd [mark D] a) w | some c => RW none [mark D] P c Q a w)) :
    RW none [] P (.rangeFunc g ps asg bdy) Q a w := by
  unfold RW
  rw [dd_nil h.1]
  refine wpIn_rangeFunc (F := Fr none) ?_
  intro fn hfn
  obtain ⟨W1, hW1⟩ : ∃ W1, (w.alloc (.deferred (some []))).alloc (.loop { state := .ready, pending := none, fn := fn, tmps := a.tmps, params := ps, assign := asg, body := bdy, defers := w.heap.size }) = W1 := ⟨_, rfl⟩
  have hs1 : Sat s W1 (LpI (w.heap.size + 1) .ready none n E ps asg bdy :: Blk w.heap.size (.deferred (some [])) :: L) := by
    have h1 := h.2.alloc (.deferred (some []))
    have h2 := h1.alloc (.loop { state := .ready, pending := none, fn := fn, tmps := a.tmps, params := ps, assign := asg, body := bdy, defers := w.heap.size })
    rw [hW1, World.size_alloc] at h2
    obtain ⟨g1, g2, g3, D0, gI, gL⟩ := h2
    refine ⟨g1, g2, g3, D0, ⟨fn, a.tmps, w.heap.size, ?_, gI⟩, gL⟩
    have := h.1
    exact ⟨this.1, rfl, this.2.2⟩
  have hev := h.1.ev hg
  refine ⟨w.heap.size + 1, [mark w.heap.size], W1, { target := .fn (.func gf) lb, args := #[.func (.yield (w.heap.size + 1)) #[] #[]] }, W1, gf,
    #[.func (.yield (w.heap.size + 1)) #[] #[]] ++ lb, W1, ?_, ?_, fun _ _ => trivial, ?_, fun h => (by cases h), ?_⟩
  · rw [← hW1]; exact run_enterLoop_outer _ _ _ _ _
  · show (Deferred.ofValue (a.eval g) _).run P W1 = _
    rw [hev]; simp [Deferred.ofValue, rangeCall, Act.eval]
  · simp [invoke, run_callFunc_go hgo]
  · show CallsIn Fence.wide _ P _ _ _ _
    refine callsIn_wide.2 ((hc _ _ W1 _ rfl hs1).mono ?_)
    rintro e w3 ⟨⟨v, rfl⟩, x, hφ, hs3⟩
    obtain ⟨fn', T, D', hE, hb', hw⟩ := hs3.lpi 0 rfl
    refine ⟨_, _, run_endLoop hb' (hst x), ?_⟩
    have hk := k x w.heap.size a _ hφ ⟨h.1, (hw .exhausted (pend x)).tail⟩
    have ha : dd [mark w.heap.size] a = { a with defers := [mark w.heap.size] ++ a.defers } := by rw [h.1.2.1]; rfl
    revert hk
    cases pend x with
    | none => intro hk; rw [ha] at hk; exact hk
    | some c => intro hk; unfold RW at hk; rw [ha] at hk; exact hk

/-! ### a function with such a statement -/
theorem enterM {f : FuncId} {fn : Func} {c : Code} {args : Array Value} {R : Ending → World → Prop} (hf : P.funcs[f]? = some fn) (hb : fn.body = some c) (hn : fn.ntmps = n)
    (hs : Nat.ble args.size n = true) (hw : Sat s w L) (h : ∀ a w, St n s a w (argsE 0 args.toList) L → RW none [] P c (bodyPostM Fence.wide 0 P fn R) a w) : Calls P f args w R := by
  refine callsIn_wide.1 (callsIn_of_wp_marks (n := 0) hf hb trivial ?_ rfl)
  have := h { tmps := args ++ Array.replicate (fn.ntmps - args.size) undef, defers := [] } w ⟨⟨?_, rfl, ?_⟩, hw⟩
  · exact this
  · have : args.size ≤ n := by simpa using hs
    simp [hn]; omega
  · intro t v hv
    have ⟨_, h2⟩ := lk_argsE 0 args.toList t v hv
    simp only [Nat.sub_zero, Array.getElem?_toList] at h2
    have hlt : t < args.size := (Array.getElem?_eq_some_iff.1 h2).1
    show (args ++ _)[t]? = some v
    rw [Array.getElem?_append_left hlt]
    exact h2
/-- a plain function, walked so -/
theorem enterP {f : FuncId} {fn : Func} {c : Code} {args : Array Value} {R : Ending → World → Prop} (hf : P.funcs[f]? = some fn) (hb : fn.body = some c) (hn : fn.ntmps = n)
    (hs : Nat.ble args.size n = true) (hw : Sat s w L) (h : ∀ a w, St n s a w (argsE 0 args.toList) L → RW none [] P c (bodyPost P fn R) a w) : Calls P f args w R :=
  Sl.enter hf hb hn hs hw fun a w hst => by have := h a w hst; unfold RW at this; rw [dd_nil hst.1] at this; exact wpIn_wide.1 this

theorem ret0M {fn : Func} {R : Ending → World → Prop} (h : St n s a w E L) (k : ∃ v, (results fn a.tmps).run P w = .ok v w ∧ R (.returned v) w) : bodyPostM Fence.wide 0 P fn R .ret (dd [] a) w := k
theorem retM {fn : Func} {R : Ending → World → Prop} {D : Nat} (h : St n s a w E L) (i : Nat) (hi : L[i]? = some (Blk D (.deferred (some []))))
    (k : ∀ w, St n s a w E (L.set i (Blk D (.deferred none))) → ∃ v, (results fn a.tmps).run P w = .ok v w ∧ R (.returned v) w) : LeavesInM Fence.wide 0 P fn a.tmps R [mark D] .returning w := by
  have hb := h.2.blk i hi
  have hlt := heap_lt hb
  have hil : i < L.length := (List.getElem?_eq_some_iff.1 hi).1
  refine ⟨by simp, .inl ⟨D, _, rfl, run_takeDeferred hb, ?_⟩⟩
  have := Sat.turn (o' := .deferred none) (h.2.front i hi) (w' := w.putObj D (.deferred none)) rfl rfl rfl (World.putObj_heap_same hlt) (fun k hk => World.putObj_heap_other hk)
  exact k _ ⟨h.1, this.1, this.2.1, this.2.2.1, sepL_set hil this.2.2.2⟩
theorem retM_ret {fn : Func} {R : Ending → World → Prop} {D : Nat} (h : St n s a w E L) (i : Nat) (hi : L[i]? = some (Blk D (.deferred (some []))))
    (k : ∀ w, St n s a w E (L.set i (Blk D (.deferred none))) → ∃ v, (results fn a.tmps).run P w = .ok v w ∧ R (.returned v) w) : bodyPostM Fence.wide 0 P fn R .ret (dd [mark D] a) w   := retM (a := a) h i hi k
theorem retM_end {fn : Func} {R : Ending → World → Prop} {D : Nat} (h : St n s a w E L) (i : Nat) (hi : L[i]? = some (Blk D (.deferred (some []))))
    (k : ∀ w, St n s a w E (L.set i (Blk D (.deferred none))) → ∃ v, (results fn a.tmps).run P w = .ok v w ∧ R (.returned v) w) : bodyPostM Fence.wide 0 P fn R .normal (dd [mark D] a) w := retM (a := a) h i hi k
end R

section
variable {P : Program} {n : Nat} {s w : World} {a : Act} {E : List (Nat × Value)} {L : List HItem} {Q : Exit → Act → World → Prop} {next : Act → World → Prop}
variable {d : Nat} {dst : Option Nat} {ty : TypeId} {pos : String} {aft : Array Edge} {g : Option (Nat × Bool)}

theorem results_nil {fn : Func} (hr : fn.results = #[]) (tmps : Array Value) (w : World) : (results fn tmps).run P w = .ok (.tuple #[]) w := by
  simp [results, hr]
/-- a result that lies in a block of its own, of one cell -/
theorem run_loadVar1 (h : St n s a w E L) {t : TypeId} {b : Nat} {dd : TypeDesc} (hu : P.underlying t = some dd) (hf : TypeDesc.flat dd = true)
    (i : Nat) {v : Value} {T : TypeId} {fr : Nat × Nat} (hi : L[i]? = some (Blk b (.cells #[v] T fr))) : (loadVar t ⟨b, 0, none⟩).run P w = .ok v w := by
  have hb := h.2.blk i hi
  have hc : w.cell? ⟨b, 0, none⟩ = some v := by simp [World.cell?, hb]
  simp [loadVar, run_isAgg hu, hf, hc]
theorem results_cc (h : St n s a w E L) {fn : Func} {q u : Nat} {t t2 : TypeId} {b b2 : Nat} {dd dd2 : TypeDesc} {v v2 : Value} (hr : fn.results = #[.cell q t, .cell u t2]) (hq : lk E q = some (.pointer (some ⟨b, 0, none⟩))) (hq2 : lk E u = some (.pointer (some ⟨b2, 0, none⟩)))
    (hu : P.underlying t = some dd) (hf : TypeDesc.flat dd = true) (hu2 : P.underlying t2 = some dd2) (hf2 : TypeDesc.flat dd2 = true)
    (i : Nat) {T : TypeId} {fr : Nat × Nat} (hi : L[i]? = some (Blk b (.cells #[v] T fr))) (i2 : Nat) {T2 : TypeId} {fr2 : Nat × Nat} (hi2 : L[i2]? = some (Blk b2 (.cells #[v2] T2 fr2))) :
    (results fn a.tmps).run P w = .ok (.tuple #[v, v2]) w := by
  have h1 := h.1.2.2 q _ hq
  have h2 := h.1.2.2 u _ hq2
  simp [results, hr, h1, h2, asAddr, run_loadVar1 h hu hf i hi, run_loadVar1 h hu2 hf2 i2 hi2]

theorem r_mkIface (h : St n s a w E L) {t : TypeId} {x : Operand} {v : Value} {dt : TypeDesc} (hx : ev E x = some v) (hu : P.underlying t = some dt) (hf : (match dt with | .interface _ => false | _ => true) = true) :
    (execOp a.eval ⟨dst, .makeInterface t x, ty, pos, aft, g⟩).run P w = .ok (.value (.iface t v)) w := by
  cases dt <;> first | (cases hf; done) | simp [execOp, Instr.makeInterface, h.1.ev hx, run_underlying hu]

theorem r_ifeq_nil (h : St n s a w E L) {xt yt : TypeId} {x y : Operand} {t : TypeId} {v : Value} (hu : ∃ m, P.underlying xt = some (.interface m)) (hx : ev E x = some (.iface t v)) (hy : ev E y = some .nilIface) :
    (execOp a.eval ⟨dst, .binOp .eql xt x y yt, ty, pos, aft, g⟩).run P w = .ok (.value (.bool false)) w := by
  obtain ⟨m, hu⟩ := hu
  refine r_binv h hx hy (fun w => ⟨by simp [eqGuard], ?_⟩)
  show ((Op.equal xt (.iface t v) .nilIface >>= fun r => pure (Value.bool r)).run P w) = _
  rw [Sem.run_bind, equal_run (b := false) (fun dd => by simp [Op.equalIn, run_underlying hu])]
  rfl

theorem r_ifnil_eq (h : St n s a w E L) {xt yt : TypeId} {x : Operand} (hu : ∃ m, P.underlying xt = some (.interface m)) (hx : ev E x = some .nilIface) :
    (execOp a.eval ⟨dst, .binOp .eql xt x (.const .nilIface) yt, ty, pos, aft, g⟩).run P w = .ok (.value (.bool true)) w := by
  obtain ⟨m, hu⟩ := hu
  refine r_binv h hx (y := .const .nilIface) rfl (fun w => ⟨by simp [eqGuard], ?_⟩)
  show ((Op.equal xt .nilIface .nilIface >>= fun r => pure (Value.bool r)).run P w) = _
  rw [Sem.run_bind, equal_run (b := true) (fun dd => by simp [Op.equalIn, run_underlying hu])]
  rfl
theorem op_invoke (h : St n s a w E L) {f : Operand} {t : TypeId} {rv rv' : Value} {gf : FuncId} {nm : String} {xs : List Operand} {ats : Array TypeId} {vs : List Value} {X : Type} {r : X → Value} {L' : X → List HItem} {φ : X → Prop}
    (hf : ev E f = some (.iface t rv)) (hx : evs E xs = some vs) (hm : ∀ w, (method (P.types.size + Made.depth) t rv nm).run P w = .ok (gf, rv') w) (hgo : isGo P gf = true)
    (hc : Calls P gf (#[rv'] ++ vs.toArray) w (Ret s r L' φ)) (hd : Nat.blt d n = true)
    (k : ∀ x a w, φ x → St n s a w ((d, r x) :: E) (L' x) → next a w) :
    (Oper.mk (some d) (.call { callee := .invoke f nm, args := xs.toArray, argTypes := ats }) ty pos aft g).wp P a w next Q := by
  have he : (execOp a.eval (Oper.mk (some d) (.call { callee := .invoke f nm, args := xs.toArray, argTypes := ats }) ty pos aft g)).run P w = .ok (.enter gf (#[rv'] ++ vs.toArray)) w := by
    have h0 : xs.toArray.map a.eval = vs.toArray := by rw [List.map_toArray, h.1.evs hx]
    have h1 : (#[Value.iface t rv] ++ vs.toArray).extract 1 (#[Value.iface t rv] ++ vs.toArray).size = vs.toArray := by
      apply Array.ext'
      simp
    have h2 : (#[Value.iface t rv] ++ vs.toArray)[0]? = some (.iface t rv) := by simp
    simp only [execOp, resolve, invoke, h.1.ev hf, h0, Sem.run_bind, Sem.run_pure, Result.andThen_ok, h2, h1, callMethod, hm, run_callFunc_go hgo, run_program]
  unfold Oper.wp
  rw [he]
  exact hc.mono fun e w' ⟨x, he, hs, hφ⟩ => by subst he; exact k x _ _ hφ ⟨h.1.put hd _, hs⟩
end
end Go.Sl
