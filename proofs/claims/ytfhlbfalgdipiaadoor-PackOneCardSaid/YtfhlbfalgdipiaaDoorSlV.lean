/- A small library for walks, part V: regions that draw their order: what is owed while an operation is ahead of its turn. No statement is proved here. -/
import Derived.Test.YtfhlbfalgdipiaaDoorSlU
import Derived.OrdersHeld
set_option linter.unusedVariables false
set_option linter.unusedSimpArgs false
namespace Go.Sl

/-- may number j come up while number i hasn't yet? -/
def may (ops : Array Oper) (j i : Nat) : Bool := match ops[j]? with
  | some o => !(o.after.any fun e => Region.binds .any e && Nat.beq e.on i)
  | none => true
/-- what is still owed when number j has come up -/
def due (ops : Array Oper) (j : Nat) (D : List (Nat × List HItem)) : List (Nat × List HItem) := D.filter fun d => may ops j d.1
def Paid (s w : World) : List (Nat × List HItem) → Prop
  | [] => True
  | d :: D => Sat s w d.2 ∧ Paid s w D
theorem Paid.mem {s w : World} : ∀ {D : List (Nat × List HItem)}, Paid s w D → ∀ d ∈ D, Sat s w d.2
  | _ :: _, h, d, hd => by
    rcases List.mem_cons.1 hd with rfl | hd
    · exact h.1
    · exact Paid.mem h.2 d hd
theorem Paid.of {s w : World} : ∀ {D : List (Nat × List HItem)}, (∀ d ∈ D, Sat s w d.2) → Paid s w D
  | [], _ => trivial
  | d :: D, h => ⟨h d (by simp), Paid.of fun d' hd' => h d' (by simp [hd'])⟩

def pickD {α : Type} : List Bool → List α → List α
  | true :: bs, d :: D => d :: pickD bs D
  | false :: bs, _ :: D => pickD bs D
  | _, _ => []
theorem Paid.nil {s w : World} : Paid s w [] := trivial
theorem Paid.cons {s w : World} {d : Nat × List HItem} {D : List (Nat × List HItem)} (h : Sat s w d.2) (hD : Paid s w D) : Paid s w (d :: D) := ⟨h, hD⟩
/-- whatever order is picked, all that is owed is kept -/
def Drawn (P : Program) (s : World) (ops : Array Oper) (Q : Exit → Act → World → Prop) : Nat → List (Nat × List HItem) → Array Bool → Act → World → Prop
  | 0, _, listed, a, w => Region.ready .any ops listed = [] ∧ Q .normal a w
  | fuel + 1, D, listed, a, w => (Region.ready .any ops listed = [] → Q .normal a w) ∧
    ∀ j ∈ Region.ready .any ops listed, wpOp P ops Q j (fun a' w' => Paid s w' (due ops j D) ∧ Drawn P s ops Q fuel (due ops j D) (listed.setIfInBounds j true) a' w') a w

section
variable {P : Program} {s : World} {ops : Array Oper} {Q : Exit → Act → World → Prop}

theorem Drawn.any : ∀ (fuel : Nat) (D : List (Nat × List HItem)) (listed : Array Bool) (a : Act) (w : World), Drawn P s ops Q fuel D listed a w → wpAny P .any ops Q fuel listed a w
  | 0, _, _, _, _, h => h
  | fuel + 1, D, _, _, _, h => ⟨h.1, fun j hj => wpOp_mono (fun _ _ h' => Drawn.any fuel _ _ _ _ h'.2) (h.2 j hj)⟩
theorem due_sub {j : Nat} {D D' : List (Nat × List HItem)} (hs : ∀ d ∈ D', d ∈ D) : ∀ d ∈ due ops j D', d ∈ due ops j D := by
  intro d hd
  simp only [due, List.mem_filter] at hd ⊢
  exact ⟨hs d hd.1, hd.2⟩
theorem Drawn.less : ∀ (fuel : Nat) (D D' : List (Nat × List HItem)) (hs : ∀ d ∈ D', d ∈ D) (listed : Array Bool) (a : Act) (w : World), Drawn P s ops Q fuel D listed a w → Drawn P s ops Q fuel D' listed a w
  | 0, _, _, _, _, _, _, h => h
  | fuel + 1, D, D', hs, _, _, _, h => ⟨h.1, fun j hj => wpOp_mono (fun _ _ h' => ⟨Paid.of fun d hd => h'.1.mem d (due_sub hs d hd), Drawn.less fuel _ _ (due_sub hs) _ _ _ h'.2⟩) (h.2 j hj)⟩

/-- an operation that may come up, taken ahead of its turn: what it leans on is owed until something that waits for it comes up -/
theorem Drawn.first {i : Nat} {oi : Oper} {v : Value} {G : List HItem} (hi : ops[i]? = some oi) (hsel : ∀ (j : Nat) (o : Oper) cs b, ops[j]? = some o → o.op ≠ .select cs b)
    (hQ : ∀ c a w, Q (.panic c) (a.put oi.dst v) w → Q (.panic c) a w) : ∀ (fuel : Nat) (D : List (Nat × List HItem)) (listed : Array Bool) (a : Act) (w : World),
      (∀ j oj, ops[j]? = some oj → j ≠ i → listed.getD j true = false → (∀ e ∈ oj.after, Region.binds .any e = true → e.on ≠ i) → oi.apart ops oj = true) →
      i ∈ Region.ready .any ops listed → YieldsIf P ops (fun w => Sat s w G) oi v a → Sat s w G → Paid s w D →
      Drawn P s ops Q fuel ((i, G) :: D) (listed.setIfInBounds i true) (a.put oi.dst v) w → Drawn P s ops Q (fuel + 1) D listed a w := by
  intro fuel
  induction fuel with
  | zero =>
    intro D listed a w _ hr hy hG hD H
    refine ⟨fun h => absurd (h ▸ hr) (by simp), fun j hj => ?_⟩
    by_cases e : j = i
    · subst e
      exact hy.wpOp hi hG ⟨Paid.of fun d hd => hD.mem d ((List.mem_filter.1 hd).1), H⟩
    · exact absurd (H.1 ▸ ready_mono hj e) (by simp)
  | succ fuel ih =>
    intro D listed a w hfree hr hy hG hD H
    refine ⟨fun h => absurd (h ▸ hr) (by simp), fun j hj => ?_⟩
    by_cases e : j = i
    · subst e
      exact hy.wpOp hi hG ⟨Paid.of fun d hd => hD.mem d ((List.mem_filter.1 hd).1), Drawn.less _ _ _ (fun d hd => List.mem_cons_of_mem _ ((List.mem_filter.1 hd).1)) _ _ _ H⟩
    · have hjr := mem_ready.1 hj
      obtain ⟨hju, oj, hoj, hall⟩ := hjr
      have hin := (mem_ready.1 hr).1
      have hwait : ∀ q ∈ oj.after, Region.binds .any q = true → q.on ≠ i := by
        intro q hq hb he
        have h1 := hall q hq hb
        rw [he] at h1
        by_cases hs : i < listed.size
        · rw [Array.getD_eq_getD_getElem?, Array.getElem?_eq_getElem hs] at h1 hin
          simp only [Option.getD_some] at h1 hin
          rw [h1] at hin; cases hin
        · rw [Array.getD_eq_getD_getElem?, Array.getElem?_eq_none (by omega)] at h1 hin
          simp only [Option.getD_none] at h1 hin
          first | cases h1 | cases hin
      have hmay : may ops j i = true := by
        simp only [may, hoj, Bool.not_eq_true', Array.any_eq_false']
        intro q hq
        have := hwait q hq
        cases hb : Region.binds .any q with
        | false => simp
        | true => simpa [Nat.beq_eq] using this hb
      have hdue : due ops j ((i, G) :: D) = (i, G) :: due ops j D := by simp [due, hmay]
      have h1 := H.2 j (ready_mono hj e)
      rw [hdue] at h1
      refine wpOp_mono (fun a' w' h3 => ⟨h3.2.1.2, ih _ _ a' w' ?_ (ready_mono hr (Ne.symm e)) h3.1 h3.2.1.1 h3.2.1.2 ?_⟩)
        (wpOp_putIf hoj (hfree j oj hoj e hju hwait) (fun cs b => hsel i oi cs b hi) (fun cs b => hsel j oj cs b hoj) hQ hy h1)
      · intro k ok hk hki hun hno
        refine hfree k ok hk hki ?_ hno
        by_cases hjk : j = k
        · subst hjk; exact hju
        · rwa [getD_set_ne true hjk] at hun
      · rw [Array.setIfInBounds_comm _ _ e]
        exact h3.2.2
/-- one that leans on nothing -/
theorem Drawn.first0 {i : Nat} {oi : Oper} {v : Value} (hi : ops[i]? = some oi) (hsel : ∀ (j : Nat) (o : Oper) cs b, ops[j]? = some o → o.op ≠ .select cs b)
    (hQ : ∀ c a w, Q (.panic c) (a.put oi.dst v) w → Q (.panic c) a w) : ∀ (fuel : Nat) (D : List (Nat × List HItem)) (listed : Array Bool) (a : Act) (w : World),
      (∀ j oj, ops[j]? = some oj → j ≠ i → listed.getD j true = false → (∀ e ∈ oj.after, Region.binds .any e = true → e.on ≠ i) → oi.apart ops oj = true) →
      i ∈ Region.ready .any ops listed → YieldsIf P ops (fun _ => True) oi v a → Paid s w D →
      Drawn P s ops Q fuel D (listed.setIfInBounds i true) (a.put oi.dst v) w → Drawn P s ops Q (fuel + 1) D listed a w := by
  intro fuel
  induction fuel with
  | zero =>
    intro D listed a w _ hr hy hD H
    refine ⟨fun h => absurd (h ▸ hr) (by simp), fun j hj => ?_⟩
    by_cases e : j = i
    · subst e
      exact hy.wpOp hi trivial ⟨Paid.of fun d hd => hD.mem d (List.mem_filter.1 hd).1, H⟩
    · exact absurd (H.1 ▸ ready_mono hj e) (by simp)
  | succ fuel ih =>
    intro D listed a w hfree hr hy hD H
    refine ⟨fun h => absurd (h ▸ hr) (by simp), fun j hj => ?_⟩
    by_cases e : j = i
    · subst e
      exact hy.wpOp hi trivial ⟨Paid.of fun d hd => hD.mem d (List.mem_filter.1 hd).1, Drawn.less _ _ _ (fun d hd => (List.mem_filter.1 hd).1) _ _ _ H⟩
    · obtain ⟨hju, oj, hoj, hall⟩ := mem_ready.1 hj
      have hin := (mem_ready.1 hr).1
      have hwait : ∀ q ∈ oj.after, Region.binds .any q = true → q.on ≠ i := by
        intro q hq hb he
        have h1 := hall q hq hb
        rw [he] at h1
        by_cases hs : i < listed.size
        · rw [Array.getD_eq_getD_getElem?, Array.getElem?_eq_getElem hs] at h1 hin
          simp only [Option.getD_some] at h1 hin
          rw [h1] at hin; cases hin
        · rw [Array.getD_eq_getD_getElem?, Array.getElem?_eq_none (by omega)] at h1 hin
          simp only [Option.getD_none] at h1 hin
          first | cases h1 | cases hin
      refine wpOp_mono (fun a' w' h3 => ⟨h3.2.1, ih _ _ a' w' ?_ (ready_mono hr (Ne.symm e)) h3.1 h3.2.1 ?_⟩)
        (wpOp_putIf hoj (hfree j oj hoj e hju hwait) (fun cs b => hsel i oi cs b hi) (fun cs b => hsel j oj cs b hoj) hQ hy (H.2 j (ready_mono hj e)))
      · intro k ok hk hki hun hno
        refine hfree k ok hk hki ?_ hno
        by_cases hjk : j = k
        · subst hjk; exact hju
        · rwa [getD_set_ne true hjk] at hun
      · rw [Array.setIfInBounds_comm _ _ e]
        exact h3.2.2
end

theorem ret_true {X : Bool} (h : X = true) : Ending.returned (.bool X) = Ending.returned (.bool true) := by rw [h]
section
variable {n : Nat} {P : Program} {s w : World} {a : Act} {E : List (Nat × Value)} {L G : List HItem} {Q : Exit → Act → World → Prop} {ops : Array Oper} {D D' : List (Nat × List HItem)} {listed listed' : Array Bool} {fuel : Nat}
variable {d : Nat} {dst : Option Nat} {ty : TypeId} {pos : String} {aft : Array Edge} {op : Op} {v : Value} {j : Nat} {b g : Bool}

theorem r_extractN (h : St n s a w E L) {x : Operand} {i : Nat} {vs : List Value} {v : Value} (hx : ev E x = some (.tuple ⟨vs⟩)) (hv : nth vs i = some v) : (execOp a.eval ⟨dst, .extract x i, ty, pos, aft, none⟩).run P w = .ok (.value v) w :=
  r_extract h hx (by rw [nth_eq] at hv; simpa using hv)
theorem c_drawn {id : Nat} {l : List Oper} (N : Nat) (hm : P.follows .mixedOrders = true) (hN : l.length = N) (h : St n s a w E L) (k : ∀ a w, St n s a w E L → Drawn P s l.toArray Q N [] (Array.replicate N false) a w) : (Code.region id l.toArray true).wp P Q a w := by
  subst hN
  refine wp_region_any hm ?_
  have := Drawn.any _ _ _ _ _ (k a { w with drawn := w.drawn + 1 } ⟨h.1, h.2.congr rfl rfl rfl rfl⟩)
  simpa using this
/-- it leans on no cell -/
theorem d_take0 (h : St n s a w E L) (hD : Paid s w D) (i : Nat) (hl : listed.setIfInBounds i true = listed') (hi : ops[i]? = some (Oper.mk (some d) op ty pos aft none)) (hs : Region.noSelect ops = true) (hf : Region.free .any ops listed i = true) (hr : (Region.ready .any ops listed).contains i = true)
    (hQ : ∀ v c a w, Q (.panic c) (a.put (some d) v) w → Q (.panic c) a w) (hrun : ∀ w, St n w a w E [] → (execOp a.eval (Oper.mk (some d) op ty pos aft none)).run P w = .ok (.value v) w) (hd : Nat.blt d n = true)
    (k : ∀ a w, St n s a w ((d, v) :: E) L → Paid s w D → Drawn P s ops Q fuel D listed' a w) : Drawn P s ops Q (fuel + 1) D listed a w := by
  subst hl
  exact Drawn.first0 (s := s) hi (Region.noSelect_spec hs) (hQ v) _ _ _ _ _ (Region.free_spec hi hf) (by simpa using hr) (.inl ⟨by simp [Region.wanted], fun w' _ => hrun w' ⟨h.1, Sat.refl w'⟩⟩) hD (k _ _ ⟨h.1.put hd v, h.2⟩ hD)
/-- it leans on these items -/
theorem d_take (h : St n s a w E L) (hD : Paid s w D) (i : Nat) (G : List HItem) (hl : listed.setIfInBounds i true = listed') (hi : ops[i]? = some (Oper.mk (some d) op ty pos aft none)) (hs : Region.noSelect ops = true) (hf : Region.free .any ops listed i = true) (hr : (Region.ready .any ops listed).contains i = true)
    (hQ : ∀ v c a w, Q (.panic c) (a.put (some d) v) w → Q (.panic c) a w) (hG : Sat s w G) (hrun : ∀ w, Sat s w G → (execOp a.eval (Oper.mk (some d) op ty pos aft none)).run P w = .ok (.value v) w) (hd : Nat.blt d n = true)
    (k : ∀ a w, St n s a w ((d, v) :: E) L → Paid s w ((i, G) :: D) → Drawn P s ops Q fuel ((i, G) :: D) listed' a w) : Drawn P s ops Q (fuel + 1) D listed a w := by
  subst hl
  exact Drawn.first (s := s) (G := G) hi (Region.noSelect_spec hs) (hQ v) _ _ _ _ _ (Region.free_spec hi hf) (by simpa using hr) (.inl ⟨by simp [Region.wanted], hrun⟩) hG hD (k _ _ ⟨h.1.put hd v, h.2⟩ ⟨hG, hD⟩)
theorem d_take0G (h : St n s a w E L) (hD : Paid s w D) (i : Nat) (hl : listed.setIfInBounds i true = listed') (hi : ops[i]? = some (Oper.mk (some d) op ty pos aft (some (j, b)))) (hs : Region.noSelect ops = true) (hf : Region.free .any ops listed i = true) (hr : (Region.ready .any ops listed).contains i = true)
    (hQ : ∀ v c a w, Q (.panic c) (a.put (some d) v) w → Q (.panic c) a w) (hg : Wants ops E j b g) (hrun : g = true → ∀ w, St n w a w E [] → (execOp a.eval (Oper.mk (some d) op ty pos aft (some (j, b)))).run P w = .ok (.value v) w) (hd : Nat.blt d n = true)
    (k : ∀ a w, St n s a w ((d, gval g v) :: E) L → Paid s w D → Drawn P s ops Q fuel D listed' a w) : Drawn P s ops Q (fuel + 1) D listed a w := by
  subst hl
  have hw := hg.wanted h.1
  cases g with
  | true => exact Drawn.first0 (s := s) hi (Region.noSelect_spec hs) (hQ v) _ _ _ _ _ (Region.free_spec hi hf) (by simpa using hr) (.inl ⟨by simp only [Region.wanted]; exact hw, fun w' _ => hrun rfl w' ⟨h.1, Sat.refl w'⟩⟩) hD (k _ _ ⟨h.1.put hd v, h.2⟩ hD)
  | false => exact Drawn.first0 (s := s) hi (Region.noSelect_spec hs) (hQ undef) _ _ _ _ _ (Region.free_spec hi hf) (by simpa using hr) (.inr ⟨by simp only [Region.wanted]; exact hw, rfl⟩) hD (k _ _ ⟨h.1.put hd undef, h.2⟩ hD)
theorem d_takeG (h : St n s a w E L) (hD : Paid s w D) (i : Nat) (G : List HItem) (hl : listed.setIfInBounds i true = listed') (hi : ops[i]? = some (Oper.mk (some d) op ty pos aft (some (j, b)))) (hs : Region.noSelect ops = true) (hf : Region.free .any ops listed i = true) (hr : (Region.ready .any ops listed).contains i = true)
    (hQ : ∀ v c a w, Q (.panic c) (a.put (some d) v) w → Q (.panic c) a w) (hG : Sat s w G) (hg : Wants ops E j b g) (hrun : g = true → ∀ w, Sat s w G → (execOp a.eval (Oper.mk (some d) op ty pos aft (some (j, b)))).run P w = .ok (.value v) w) (hd : Nat.blt d n = true)
    (k : ∀ a w, St n s a w ((d, gval g v) :: E) L → Paid s w ((i, G) :: D) → Drawn P s ops Q fuel ((i, G) :: D) listed' a w) : Drawn P s ops Q (fuel + 1) D listed a w := by
  subst hl
  have hw := hg.wanted h.1
  cases g with
  | true => exact Drawn.first (s := s) (G := G) hi (Region.noSelect_spec hs) (hQ v) _ _ _ _ _ (Region.free_spec hi hf) (by simpa using hr) (.inl ⟨by simp only [Region.wanted]; exact hw, hrun rfl⟩) hG hD (k _ _ ⟨h.1.put hd v, h.2⟩ ⟨hG, hD⟩)
  | false => exact Drawn.first (s := s) (G := G) hi (Region.noSelect_spec hs) (hQ undef) _ _ _ _ _ (Region.free_spec hi hf) (by simpa using hr) (.inr ⟨by simp only [Region.wanted]; exact hw, rfl⟩) hG hD (k _ _ ⟨h.1.put hd undef, h.2⟩ ⟨hG, hD⟩)
/-- the only one that may come up -/
theorem d_only (i : Nat) (bs : List Bool) {o : Oper} (hl : listed.setIfInBounds i true = listed') (hi : ops[i]? = some o) (hg : o.guard = none) (hr : Region.ready .any ops listed = [i]) (hd : due ops i D = pickD bs D)
    (k : o.wp P a w (fun a' w' => Paid s w' (pickD bs D) ∧ Drawn P s ops Q fuel (pickD bs D) listed' a' w') Q) : Drawn P s ops Q (fuel + 1) D listed a w := by
  subst hl; rw [← hd] at k
  refine ⟨fun h => (by rw [h] at hr; cases hr), fun q hq => ?_⟩
  rw [hr, List.mem_singleton] at hq
  subst hq
  unfold wpOp
  simp only [hi]
  rw [if_pos (by simp [Region.wanted, hg])]
  exact .inl k
/-- a guarded one: wanted, or passed by -/
theorem d_onlyG (h : St n s a w E L) (hD : Paid s w D) (i : Nat) (bs : List Bool) {o : Oper} (hl : listed.setIfInBounds i true = listed') (hi : ops[i]? = some o) (hg : o.guard = some (j, b)) (hw : Wants ops E j b g) (hr : Region.ready .any ops listed = [i]) (hd : due ops i D = pickD bs D)
    (k : g = true → o.wp P a w (fun a' w' => Paid s w' (pickD bs D) ∧ Drawn P s ops Q fuel (pickD bs D) listed' a' w') Q) (kf : g = false → Drawn P s ops Q fuel (pickD bs D) listed' (a.put o.dst undef) w) : Drawn P s ops Q (fuel + 1) D listed a w := by
  subst hl; rw [← hd] at k kf
  refine ⟨fun h => (by rw [h] at hr; cases hr), fun q hq => ?_⟩
  rw [hr, List.mem_singleton] at hq
  subst hq
  have hw' := hw.wanted h.1
  unfold wpOp
  simp only [hi]
  cases g with
  | true =>
    rw [if_pos (by simp only [Region.wanted, hg]; exact hw')]
    exact .inl (k rfl)
  | false =>
    rw [if_neg (by simp only [Region.wanted, hg]; rw [hw']; simp)]
    exact ⟨Paid.of fun d hd => hD.mem d (List.mem_filter.1 hd).1, kf rfl⟩
/-- whichever of two comes up -/
theorem d_two (i i2 : Nat) (bs bs2 : List Bool) {o o2 : Oper} {listed2 : Array Bool} (hl : listed.setIfInBounds i true = listed') (hl2 : listed.setIfInBounds i2 true = listed2) (hi : ops[i]? = some o) (hi2 : ops[i2]? = some o2) (hg : o.guard = none) (hg2 : o2.guard = none) (hr : Region.ready .any ops listed = [i, i2])
    (hd : due ops i D = pickD bs D) (hd2 : due ops i2 D = pickD bs2 D)
    (k : o.wp P a w (fun a' w' => Paid s w' (pickD bs D) ∧ Drawn P s ops Q fuel (pickD bs D) listed' a' w') Q) (k2 : o2.wp P a w (fun a' w' => Paid s w' (pickD bs2 D) ∧ Drawn P s ops Q fuel (pickD bs2 D) listed2 a' w') Q) : Drawn P s ops Q (fuel + 1) D listed a w := by
  subst hl; rw [← hd] at k; subst hl2; rw [← hd2] at k2
  refine ⟨fun h => (by rw [h] at hr; cases hr), fun q hq => ?_⟩
  rw [hr] at hq
  simp only [List.mem_cons, List.not_mem_nil, or_false] at hq
  rcases hq with rfl | rfl
  · unfold wpOp
    simp only [hi]
    rw [if_pos (by simp [Region.wanted, hg])]
    exact .inl k
  · unfold wpOp
    simp only [hi2]
    rw [if_pos (by simp [Region.wanted, hg2])]
    exact .inl k2
theorem d_pay {X : Prop} (hp : Paid s w D) (k : Paid s w D → X) : Paid s w D ∧ X := ⟨hp, k hp⟩
theorem d_done (hr : Region.ready .any ops listed = []) (h : Q .normal a w) : Drawn P s ops Q fuel D listed a w := by
  cases fuel with
  | zero => exact ⟨hr, h⟩
  | succ f => exact ⟨fun _ => h, by rw [hr]; simp⟩
end
end Go.Sl
