/- A small library for walks, part K: drawn regions with effects. No statement is proved here. -/
import Derived.Test.YtfhlbfalgdipiaaDoorSlJ
import Derived.OrdersHeld
set_option linter.unusedVariables false
set_option linter.unusedSimpArgs false
namespace Go.Sl
section
variable {P : Program} {n : Nat} {s w : World} {a : Act} {E : List (Nat × Value)} {L F : List HItem} {Q : Exit → Act → World → Prop} {ops : Array Oper} {listed listed' : Array Bool} {fuel : Nat}
variable {d : Nat} {ty : TypeId} {pos : String} {aft : Array Edge} {op : Op} {v : Value}

/-! ### A region that draws its order, some of whose operations turn the world: those that don't are taken first -/
def Held (P : Program) (s : World) (ops : Array Oper) (Q : Exit → Act → World → Prop) (F : List HItem) (fuel : Nat) (listed : Array Bool) (a : Act) (w : World) : Prop := wpAnyH P .any ops Q (fun w => Sat s w F) fuel listed a w

theorem c_held {id : Nat} {l : List Oper} (F : List HItem) (N : Nat) (hm : P.follows .mixedOrders = true) (hN : l.length = N) (h : St n s a w E L) (k : ∀ a w, St n s a w E L → Held P s l.toArray Q F N (Array.replicate N false) a w) : (Code.region id l.toArray true).wp P Q a w := by
  subst hN
  refine wp_region_held (S := fun w => Sat s w F) hm ?_
  have := k a { w with drawn := w.drawn + 1 } ⟨h.1, h.2.congr rfl rfl rfl rfl⟩
  simpa [Held] using this

theorem c_heldL {id : Nat} {l : List Oper} (N : Nat) (hm : P.follows .mixedOrders = true) (hN : l.length = N) (h : St n s a w E L) (k : ∀ a w, St n s a w E L → Held P s l.toArray Q L N (Array.replicate N false) a w) : (Code.region id l.toArray true).wp P Q a w := c_held L N hm hN h k

/-- number i is taken first: it yields its value wherever F holds, and leaves the world alone -/
theorem h_take (h : St n s a w E L) (i : Nat) (hl : listed.setIfInBounds i true = listed') (hi : ops[i]? = some (Oper.mk (some d) op ty pos aft none)) (hs : Region.noSelect ops = true) (hf : Region.free .any ops listed i = true) (hr : (Region.ready .any ops listed).contains i = true)
    (hQ : ∀ c a w, Q (.panic c) (a.put (some d) v) w → Q (.panic c) a w) (hF : Sat s w F) (hrun : ∀ w, Sat s w F → (execOp a.eval (Oper.mk (some d) op ty pos aft none)).run P w = .ok (.value v) w) (hd : Nat.blt d n = true)
    (k : ∀ a w, St n s a w ((d, v) :: E) L → Held P s ops Q F fuel listed' a w) : Held P s ops Q F (fuel + 1) listed a w := by
  subst hl
  exact wpAnyH_take hi hs hf hr hQ (.inl ⟨by simp [Region.wanted], hrun⟩) hF (k _ _ ⟨h.1.put hd v, h.2⟩)
theorem h_takeg (h : St n s a w E L) (i : Nat) {j : Nat} {b : Bool} (hl : listed.setIfInBounds i true = listed') (hi : ops[i]? = some (Oper.mk (some d) op ty pos aft (some (j, b)))) (hs : Region.noSelect ops = true) (hf : Region.free .any ops listed i = true) (hr : (Region.ready .any ops listed).contains i = true)
    (hQ : ∀ c a w, Q (.panic c) (a.put (some d) v) w → Q (.panic c) a w) (hF : Sat s w F) (hrun : ∀ w, Sat s w F → (execOp a.eval (Oper.mk (some d) op ty pos aft (some (j, b)))).run P w = .ok (.value v) w) (hj : gv ops E j = some b) (hd : Nat.blt d n = true)
    (k : ∀ a w, St n s a w ((d, v) :: E) L → Held P s ops Q F fuel listed' a w) : Held P s ops Q F (fuel + 1) listed a w := by
  subst hl
  exact wpAnyH_take hi hs hf hr hQ (.inl ⟨by simp [Region.wanted, gv_yielded h.1 hj], hrun⟩) hF (k _ _ ⟨h.1.put hd v, h.2⟩)
theorem h_takes (h : St n s a w E L) (i : Nat) {j : Nat} {b : Bool} (hl : listed.setIfInBounds i true = listed') (hi : ops[i]? = some (Oper.mk (some d) op ty pos aft (some (j, b)))) (hs : Region.noSelect ops = true) (hf : Region.free .any ops listed i = true) (hr : (Region.ready .any ops listed).contains i = true)
    (hQ : ∀ c a w, Q (.panic c) (a.put (some d) undef) w → Q (.panic c) a w) (hF : Sat s w F) (hj : gvNot ops E j b = true) (hd : Nat.blt d n = true)
    (k : ∀ a w, St n s a w ((d, undef) :: E) L → Held P s ops Q F fuel listed' a w) : Held P s ops Q F (fuel + 1) listed a w := by
  subst hl
  exact wpAnyH_take hi hs hf hr hQ (.inr ⟨by simp only [Region.wanted]; rw [gvNot_wanted h.1 hj], rfl⟩) hF (k _ _ ⟨h.1.put hd _, h.2⟩)

/-- number i is the only one that may come up -/
theorem h_only (i : Nat) {o : Oper} (hl : listed.setIfInBounds i true = listed') (hi : ops[i]? = some o) (hg : o.guard = none) (hr : Region.ready .any ops listed = [i])
    (k : o.wp P a w (fun a' w' => Sat s w' F ∧ Held P s ops Q F fuel listed' a' w') Q) : Held P s ops Q F (fuel + 1) listed a w := by
  subst hl
  refine wpAnyH_all hr (by simp) (fun j hj => ?_)
  simp only [List.mem_singleton] at hj
  subst hj
  unfold wpOp
  simp only [hi]
  rw [if_pos (by simp [Region.wanted, hg])]
  exact .inl k
theorem h_onlyg (h : St n s a w E L) (i : Nat) {o : Oper} {j : Nat} {b : Bool} (hl : listed.setIfInBounds i true = listed') (hi : ops[i]? = some o) (hg : o.guard = some (j, b)) (hj : gv ops E j = some b) (hr : Region.ready .any ops listed = [i])
    (k : o.wp P a w (fun a' w' => Sat s w' F ∧ Held P s ops Q F fuel listed' a' w') Q) : Held P s ops Q F (fuel + 1) listed a w := by
  subst hl
  refine wpAnyH_all hr (by simp) (fun j hj' => ?_)
  simp only [List.mem_singleton] at hj'
  subst hj'
  unfold wpOp
  simp only [hi]
  rw [if_pos (by simp [Region.wanted, hg, gv_yielded h.1 hj])]
  exact .inl k
theorem h_done (hr : Region.ready .any ops listed = []) (h : Q .normal a w) : Held P s ops Q F fuel listed a w := wpAnyH_done hr h fuel
end
end Go.Sl
