/- A small library for walks, part Q: parts, stores and appends by form; items that hold others. No statement is proved here. -/
import Derived.Test.YtfhlbfalgdipiaaDoorSlP
set_option linter.unusedVariables false
set_option linter.unusedSimpArgs false
namespace Go.Sl

theorem Bnd.of {E : List (Nat × Value)} {x : Operand} {c : Int} {kk : IntKind} {j dflt : Nat} [NatOf c j] (hx : ev E x = some (.int kk c)) (hj : c = (j : Int)) : Bnd E (some x) dflt j := ⟨kk, by rw [hx, hj]⟩
theorem Bnd.no {E : List (Nat × Value)} {dflt : Nat} : Bnd E none dflt dflt := rfl

/-! ### Items that hold others -/
def Sep (M : List HItem) : HItem := ⟨sepL M, fun _ _ hl h => sepL_mono M hl h⟩
def Ex {X : Type} (f : X → HItem) : HItem := ⟨fun h => ∃ x, (f x).P h, fun _ _ hl ⟨x, h⟩ => ⟨x, (f x).mono _ _ hl h⟩⟩
/-- a fact beside the items -/
def Fact (p : Prop) : HItem := ⟨fun _ => p, fun _ _ _ h => h⟩

theorem sepL_congr : ∀ (L : List HItem) {h h' : HM}, (∀ b, h b = h' b) → sepL L h → sepL L h' := fun L h h' e hs => sepL_mono L (fun b o hb => by rw [← e]; exact hb) hs
theorem sepL_append : ∀ (M L : List HItem) (h : HM), sepL (M ++ L) h ↔ ∃ D : Nat → Bool, sepL M (restr D h) ∧ sepL L (restr (fun b => !D b) h)
  | [], L, h => by
    constructor
    · intro hs
      exact ⟨fun _ => false, trivial, sepL_congr L (fun b => by simp [restr]) hs⟩
    · rintro ⟨D, _, hs⟩
      exact sepL_mono L restr_le hs
  | I :: M, L, h => by
    constructor
    · rintro ⟨D, hI, hs⟩
      obtain ⟨D', hM, hL⟩ := (sepL_append M L _).1 hs
      refine ⟨fun b => D b || D' b, ⟨D, ?_, ?_⟩, ?_⟩
      · refine I.mono _ _ ?_ hI
        intro b o hb; simp only [restr] at hb ⊢; split at hb <;> simp_all
      · refine sepL_mono M ?_ hM
        intro b o hb; simp only [restr] at hb ⊢; split at hb <;> simp_all
      · refine sepL_mono L ?_ hL
        intro b o hb; simp only [restr] at hb ⊢; split at hb <;> simp_all
    · rintro ⟨D, ⟨D', hI, hM⟩, hL⟩
      refine ⟨fun b => D b && D' b, ?_, (sepL_append M L _).2 ⟨D, ?_, ?_⟩⟩
      · refine I.mono _ _ ?_ hI
        intro b o hb; simp only [restr] at hb ⊢; split at hb <;> simp_all
      · refine sepL_mono M ?_ hM
        intro b o hb; simp only [restr] at hb ⊢; split at hb <;> simp_all
      · refine sepL_mono L ?_ hL
        intro b o hb; simp only [restr] at hb ⊢; split at hb <;> simp_all
theorem Sat.unsep {s w : World} {M L : List HItem} (h : Sat s w (Sep M :: L)) : Sat s w (M ++ L) :=
  ⟨h.1, h.2.1, h.2.2.1, (sepL_append M L _).2 h.2.2.2⟩
theorem Sat.sep {s w : World} {M L : List HItem} (h : Sat s w (M ++ L)) : Sat s w (Sep M :: L) :=
  ⟨h.1, h.2.1, h.2.2.1, (sepL_append M L _).1 h.2.2.2⟩
theorem Sat.unex {s w : World} {X : Type} {f : X → HItem} {L : List HItem} (h : Sat s w (Ex f :: L)) : ∃ x, Sat s w (f x :: L) := by
  obtain ⟨h1, h2, h3, D, ⟨x, hx⟩, hL⟩ := h
  exact ⟨x, h1, h2, h3, D, hx, hL⟩
theorem Sat.ex {s w : World} {X : Type} {f : X → HItem} {L : List HItem} (x : X) (h : Sat s w (f x :: L)) : Sat s w (Ex f :: L) := by
  obtain ⟨h1, h2, h3, D, hx, hL⟩ := h
  exact ⟨h1, h2, h3, D, ⟨x, hx⟩, hL⟩
theorem Sat.unfact {s w : World} {p : Prop} {L : List HItem} (h : Sat s w (Fact p :: L)) : p ∧ Sat s w L :=
  ⟨h.2.2.2.choose_spec.1, h.tail⟩
theorem Sat.fact {s w : World} {p : Prop} {L : List HItem} (hp : p) (h : Sat s w L) : Sat s w (Fact p :: L) :=
  ⟨h.1, h.2.1, h.2.2.1, fun _ => false, hp, sepL_congr L (fun b => by simp [restr]) h.2.2.2⟩
theorem sepL_perm {L M : List HItem} (hp : L.Perm M) : ∀ h : HM, sepL L h → sepL M h := by
  induction hp with
  | nil => exact fun _ h => h
  | cons x _ ih => exact fun h ⟨D, hI, hL⟩ => ⟨D, hI, ih _ hL⟩
  | swap x y l => exact fun h hs => sepL_swap hs
  | trans _ _ ih1 ih2 => exact fun h hs => ih2 _ (ih1 _ hs)
/-- two orders of the same items -/
theorem Sat.perm {s w : World} {L M : List HItem} (hp : L.Perm M) (h : Sat s w L) : Sat s w M := ⟨h.1, h.2.1, h.2.2.1, sepL_perm hp _ h.2.2.2⟩

section
variable {P : Program} {n : Nat} {s w : World} {a : Act} {E : List (Nat × Value)} {L : List HItem} {Q : Exit → Act → World → Prop} {next : Act → World → Prop}
variable {d : Nat} {dst : Option Nat} {ty : TypeId} {pos : String} {aft : Array Edge} {g : Option (Nat × Bool)}

/-! ### Stores into one's own slices, by the element's place -/
theorem op_storeEl (h : St n s a w E L) {t : TypeId} {x y : Operand} {size N j by_ : Nat} {v u : Value} {xs : List Value} (hx : ev E x = some (elP v j)) (hy : ev E y = some u) (hs : tsz P t = some (1, by_)) (h1 : u.oneCell' = true)
    (it : Nat) (hit : L[it]? = some (Own size v N xs)) (hj : j < N * size)
    (k : ∀ a w, St n s a w E (L.set it (Own size v N (xs.set j u))) → next a w) : (Oper.mk none (.store t x y) ty pos aft g).wp P a w next Q := by
  have hN : 0 < N := by
    rcases Nat.eq_zero_or_pos N with e0 | e0
    · subst e0; simp at hj
    · exact e0
  obtain ⟨b, o, cap, rfl, he, _⟩ := (Views.own it hit _ h.2.2.2.2).elP hN
  rw [he] at hx
  exact op_storeOwn h hx hy hs h1 it hit j rfl hj k
theorem op_storeEb (h : St n s a w E L) {t : TypeId} {x y : Operand} {j by_ : Nat} {v : Value} {u : UInt8} {l : List UInt8} (hx : ev E x = some (elP v (j * 1))) (hy : ev E y = some (bv u)) (hs : tsz P t = some (1, by_))
    (it : Nat) (hit : L[it]? = some (OwnB v l)) (hj : j < l.length)
    (k : ∀ a w, St n s a w E (L.set it (OwnB v (l.set j u))) → next a w) : (Oper.mk none (.store t x y) ty pos aft g).wp P a w next Q := by
  refine op_storeEl h hx hy hs rfl it hit (by omega) (fun a w h => k a w ?_)
  have e : Own 1 v l.length ((bs l).set (j * 1) (bv u)) = OwnB v (l.set j u) := OwnB_eq (by simp [bs, List.map_set]) (by simp)
  rw [e] at h; exact h
/-- a row of things of one cell each, a call's own -/
def OwnL {α : Type} (enc : α → Value) (v : Value) (l : List α) : HItem := Own 1 v l.length (l.map enc)
theorem OwnL_eq {α : Type} {enc : α → Value} {v : Value} {N : Nat} {xs : List Value} {l : List α} (hx : xs = l.map enc) (hN : N = l.length) : Own 1 v N xs = OwnL enc v l := by subst hx; subst hN; rfl
theorem op_storeL {α : Type} {enc : α → Value} (he : ∀ x, (enc x).oneCell' = true) (h : St n s a w E L) {t : TypeId} {x y : Operand} {j by_ : Nat} {v : Value} {u : α} {l : List α} (hx : ev E x = some (elP v (j * 1))) (hy : ev E y = some (enc u)) (hs : tsz P t = some (1, by_))
    (it : Nat) (hit : L[it]? = some (OwnL enc v l)) (hj : j < l.length)
    (k : ∀ a w, St n s a w E (L.set it (OwnL enc v (l.set j u))) → next a w) : (Oper.mk none (.store t x y) ty pos aft g).wp P a w next Q := by
  refine op_storeEl h hx hy hs (he u) it hit (by omega) (fun a w h => k a w ?_)
  have e : Own 1 v l.length ((l.map enc).set (j * 1) (enc u)) = OwnL enc v (l.set j u) := OwnL_eq (by simp [List.map_set]) (by simp)
  rw [e] at h; exact h
/-- one more, out of the block that was made for it -/
theorem op_appendL1 {α : Type} {enc : α → Value} {u : α} {T : TypeId} {b : Nat} {fr : Nat × Nat} (h : St n s a w E (Blk b (.cells #[enc u] T fr) :: L)) (h1 : (enc u).oneCell' = true) {t el : TypeId} {x y : Operand} {bytes : Nat} {z v : Value} {l : List α} (hx : ev E x = some v) (hy : ev E y = some (.slice (some ⟨b, 0, none⟩) 1 1)) (hu : P.underlying t = some (.slice el)) (hs : tsz P el = some (1, bytes)) (hz : tzero P el = some z)
    (hzs : z.cells.size = 1) (hby : Nat.ble bytes 4096 = true) (i : Nat) (hi : L[i]? = some (OwnL enc v l)) (hN : l.length + 1 ≤ 4294967296)
    (hd : Nat.blt d n = true) (k : ∀ v' a w, St n s a w ((d, v') :: E) (L.set i (OwnL enc v' (l ++ [u]))) → next a w) :
    (Oper.mk (some d) (.call { callee := .builtin .append, args := #[x, y], argTypes := #[t, t] }) ty pos aft g).wp P a w next Q := by
  refine op_append1 h hx hy hu hs hz hzs hby i hi h1 hN hd (fun v' a w h => k v' a w ?_)
  have e : Own 1 v' (l.length + 1) (l.map enc ++ [enc u]) = OwnL enc v' (l ++ [u]) := OwnL_eq (by simp) (by simp)
  rw [e] at h; exact h
/-- a row of structs, a call's own -/
def OwnM {α : Type} (size : Nat) (cells : α → List Value) (v : Value) (l : List α) : HItem := Own size v l.length (l.flatMap cells)
theorem OwnM_eq {α : Type} {size : Nat} {cells : α → List Value} {v : Value} {N : Nat} {xs : List Value} {l : List α} (hx : xs = l.flatMap cells) (hN : N = l.length) : Own size v N xs = OwnM size cells v l := by subst hx; subst hN; rfl
theorem op_appendM1 {α : Type} {size : Nat} {cells : α → List Value} {u : α} {T : TypeId} {b : Nat} {fr : Nat × Nat} (h : St n s a w E (Blk b (.cells (cells u).toArray T fr) :: L)) (hl : (cells u).length = size) (h1 : ∀ q ∈ cells u, q.oneCell' = true) {t el : TypeId} {x y : Operand} {bytes : Nat} {z v : Value} {l : List α} (hx : ev E x = some v) (hy : ev E y = some (.slice (some ⟨b, 0, none⟩) 1 1)) (hu : P.underlying t = some (.slice el)) (hs : tsz P el = some (size, bytes)) (hz : tzero P el = some z)
    (hzs : z.cells.size = size) (hby : Nat.ble bytes 4096 = true) (i : Nat) (hi : L[i]? = some (OwnM size cells v l)) (hN : l.length + 1 ≤ 4294967296)
    (hd : Nat.blt d n = true) (k : ∀ v' a w, St n s a w ((d, v') :: E) (L.set i (OwnM size cells v' (l ++ [u]))) → next a w) :
    (Oper.mk (some d) (.call { callee := .builtin .append, args := #[x, y], argTypes := #[t, t] }) ty pos aft g).wp P a w next Q := by
  have hv : Views (Blk b (.cells (cells u).toArray T fr) :: L) size (.slice (some ⟨b, 0, none⟩) 1 1) 1 (cells u) := Views.blk 0 rfl rfl rfl (by rw [Nat.one_mul, ← hl]; simp) (by omega)
  refine op_append (xs := l.flatMap cells) (N := l.length) h hx hy hu hs hz hzs hby (i + 1) (show L[i]? = _ from hi) (Src.views hu hv h.2) h1 hN hd (fun v' a w h => k v' a w ?_)
  have e : Own size v' (l.length + 1) (l.flatMap cells ++ cells u) = OwnM size cells v' (l ++ [u]) := OwnM_eq (by simp) (by simp)
  rw [e] at h; exact h.drop 1
theorem flatMap_get {α : Type} {size : Nat} {cells : α → List Value} (hc : ∀ x, (cells x).length = size) : ∀ (l : List α) (j : Nat) (x : α), l[j]? = some x → ((l.flatMap cells).drop (j * size)).take size = cells x
  | [], j, x, h => by simp at h
  | y :: l, 0, x, h => by
    simp at h; subst h
    simp only [Nat.zero_mul, List.drop_zero, List.flatMap_cons]
    exact List.take_left' (hc _)
  | y :: l, j + 1, x, h => by
    rw [List.flatMap_cons, Nat.add_mul, Nat.one_mul, Nat.add_comm, ← List.drop_drop, List.drop_left' (hc _)]
    exact flatMap_get hc l j x (by simpa using h)
theorem flatMap_set {α : Type} {size : Nat} {cells : α → List Value} (hc : ∀ x, (cells x).length = size) : ∀ (l : List α) (j : Nat) (x : α), j < l.length → (l.flatMap cells).take (j * size) ++ cells x ++ (l.flatMap cells).drop (j * size + size) = (l.set j x).flatMap cells
  | [], j, x, h => by simp at h
  | y :: l, 0, x, h => by
    simp only [Nat.zero_mul, List.take_zero, List.nil_append, List.flatMap_cons, List.set_cons_zero, Nat.zero_add]
    rw [List.drop_left' (hc _)]
  | y :: l, j + 1, x, h => by
    have := flatMap_set hc l j x (by simpa using h)
    rw [List.flatMap_cons, List.set_cons_succ, List.flatMap_cons, ← this, Nat.add_mul, Nat.one_mul]
    rw [List.take_append, List.drop_append, hc, List.take_of_length_le (by rw [hc]; omega), show j * size + size - size = j * size by omega, List.drop_eq_nil_iff.2 (by rw [hc]; omega), show j * size + size + size - size = j * size + size by omega]
    simp [List.append_assoc]
/-- a whole struct of one's own row is written -/
theorem op_storeM {α : Type} {size : Nat} {cells : α → List Value} (hc : ∀ x, (cells x).length = size) (h : St n s a w E L) {t : TypeId} {x y : Operand} {j by_ : Nat} {v : Value} {u : α} {l : List α} (hx : ev E x = some (elP v (j * size))) (hy : ev E y = some (.agg (cells u).toArray)) (hs : tsz P t = some (size, by_)) (h1 : ∀ q ∈ cells u, q.oneCell' = true)
    (it : Nat) (hit : L[it]? = some (OwnM size cells v l)) (hj : j < l.length)
    (k : ∀ a w, St n s a w E (L.set it (OwnM size cells v (l.set j u))) → next a w) : (Oper.mk none (.store t x y) ty pos aft g).wp P a w next Q := by
  have hil : it < L.length := (List.getElem?_eq_some_iff.1 hit).1
  obtain ⟨e1, e2, e3, D, ⟨hxl, hI⟩, hL⟩ := h.2.front it hit
  rcases hI with ⟨hn, h0⟩ | ⟨b, o, cap, cur, e, fr, rfl, hb, hfr, hnc, hcm, hcs, hxx⟩
  · omega
  · have hb' : w.heap[b]? = some (.cells cur e fr) := restr_le b _ hb
    have hjs : j * size + size ≤ l.length * size := by
      have := Nat.mul_le_mul_right size (show j + 1 ≤ l.length by omega)
      rw [Nat.add_mul, Nat.one_mul] at this; exact this
    have hNc : l.length * size ≤ cap * size := Nat.mul_le_mul_right _ hnc
    have hul := hc u
    obtain ⟨w', hr, g1, g2, g3, g4, g5⟩ := run_storeCells_gen P b e fr (o + j * size) (cells u) 0 cur w hb' (by omega) hfr h1
    refine op_run_skip h (w' := w') ?_ ?_ k
    · have hcc : (Value.agg (cells u).toArray).cells = (cells u).toArray := rfl
      have hx' : ev E x = some (.pointer (some ⟨b, o + j * size, none⟩)) := hx
      simp [execOp, h.1.ev hx', h.1.ev hy, Instr.storeAt, Instr.sureAddr, storeVar, hcc, run_sizeOf hs, hul, hr]
    · have hD : D b = true := by
        simp only [restr] at hb
        split at hb
        · assumption
        · cases hb
      refine ⟨g1.trans e1, g2.trans e2, g3.trans e3, sepL_set hil ⟨D, ⟨?_, .inr ⟨b, o, cap, splice cur (o + j * size + 0) (cells u), e, fr, ?_, ?_, ?_, ?_, hcm, ?_, ?_⟩⟩, ?_⟩⟩
      · rw [← flatMap_set hc l j u hj]
        simp only [List.length_append, List.length_take, List.length_drop, hxl, hul, List.length_set]; omega
      · simp
      · show restr D (hmOf w') b = _
        simp only [restr, hD, if_true]
        exact g4
      · rw [splice_size _ _ _ (by omega)]; exact hfr
      · simpa using hnc
      · rw [splice_size _ _ _ (by omega)]; exact hcs
      · rw [← flatMap_set hc l j u hj, ← hxx, List.length_set]
        have hcl : cur.toList.length = cur.size := Array.length_toList
        apply List.ext_getElem?
        intro i
        simp only [splice, Nat.add_zero]
        rw [List.getElem?_take]
        split
        · rename_i hi
          rw [List.getElem?_drop]
          by_cases h1' : i < j * size
          · rw [List.append_assoc, List.getElem?_append_left (by simp; omega), List.getElem?_take, if_pos (by omega), List.append_assoc, List.getElem?_append_left (by simp; omega), List.getElem?_take, if_pos h1', List.getElem?_take, if_pos (by omega), List.getElem?_drop]
          · by_cases h2' : i < j * size + size
            · rw [List.append_assoc, List.getElem?_append_right (by simp; omega), List.getElem?_append_left (by simp; omega), List.append_assoc, List.getElem?_append_right (by simp; omega), List.getElem?_append_left (by simp; omega)]
              congr 1
              simp; omega
            · rw [List.getElem?_append_right (by simp; omega), List.getElem?_append_right (by simp; omega), List.getElem?_drop, List.getElem?_drop, List.getElem?_take, if_pos (by simp; omega), List.getElem?_drop]
              congr 1
              simp; omega
        · rename_i hi
          rw [List.getElem?_eq_none]
          simp; omega
      · refine sepL_mono _ ?_ hL
        intro q u' hk
        simp only [restr] at hk ⊢
        split at hk
        · rename_i hk'
          rw [if_pos hk']
          have : q ≠ b := by intro ee; subst ee; simp [hD] at hk'
          show w'.heap[q]? = some u'
          rw [g5 q this]; exact hk
        · cases hk
end
end Go.Sl
