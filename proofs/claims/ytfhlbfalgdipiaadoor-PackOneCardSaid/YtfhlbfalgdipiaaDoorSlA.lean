/- A small library for walks, part A: heap items that lie apart. No statement is proved here. -/
import Derived.WalkKit
import Derived.Below
set_option linter.unusedVariables false
namespace Go.Sl

/-! ### Partial heaps, items, separation -/
abbrev HM := Nat → Option Obj

def HM.le (h h' : HM) : Prop := ∀ b o, h b = some o → h' b = some o

structure HItem where
  P : HM → Prop
  mono : ∀ h h', HM.le h h' → P h → P h'

def restr (D : Nat → Bool) (h : HM) : HM := fun b => if D b then h b else none

theorem restr_mono {D : Nat → Bool} {h h' : HM} (hl : HM.le h h') : HM.le (restr D h) (restr D h') := by
  intro b o hb
  simp only [restr] at hb ⊢
  split at hb
  · rename_i hD; rw [if_pos hD]; exact hl b o hb
  · cases hb

theorem restr_le {D : Nat → Bool} {h : HM} : HM.le (restr D h) h := by
  intro b o hb
  unfold restr at hb
  split at hb
  · exact hb
  · cases hb

def sepL : List HItem → HM → Prop
  | [], _ => True
  | I :: L, h => ∃ D : Nat → Bool, I.P (restr D h) ∧ sepL L (restr (fun b => !D b) h)

theorem sepL_mono : ∀ (L : List HItem) {h h' : HM}, HM.le h h' → sepL L h → sepL L h'
  | [], _, _, _, _ => trivial
  | I :: L, h, h', hl, ⟨D, hI, hL⟩ => ⟨D, I.mono _ _ (restr_mono hl) hI, sepL_mono L (restr_mono hl) hL⟩

theorem sepL_swap {I J : HItem} {L : List HItem} {h : HM} (hs : sepL (I :: J :: L) h) : sepL (J :: I :: L) h := by
  obtain ⟨D, hI, D', hJ, hL⟩ := hs
  refine ⟨fun b => !D b && D' b, ?_, D, ?_, ?_⟩
  · refine J.mono _ _ ?_ hJ
    intro b o hb
    simp only [restr] at hb ⊢
    split at hb <;> simp_all
  · refine I.mono _ _ ?_ hI
    intro b o hb
    simp only [restr] at hb ⊢
    split at hb <;> simp_all
  · refine sepL_mono L ?_ hL
    intro b o hb
    simp only [restr] at hb ⊢
    split at hb <;> simp_all

theorem sepL_front : ∀ (L : List HItem) (i : Nat) (I : HItem) (h : HM), L[i]? = some I → sepL L h → sepL (I :: L.eraseIdx i) h
  | [], _, _, _, e, _ => by simp at e
  | J :: L, 0, I, h, e, hs => by simp at e; subst e; exact hs
  | J :: L, i + 1, I, h, e, ⟨D, hJ, hL⟩ => by
    have := sepL_front L i I _ (by simpa using e) hL
    simp only [List.eraseIdx_cons_succ]
    exact sepL_swap ⟨D, hJ, this⟩

theorem sepL_back : ∀ (L : List HItem) (i : Nat) (I : HItem) (h : HM), i ≤ L.length → sepL (I :: L) h → sepL (L.insertIdx i I) h
  | L, 0, I, h, _, hs => by simpa using hs
  | [], i + 1, I, h, e, _ => by simp at e
  | J :: L, i + 1, I, h, e, hs => by
    obtain ⟨D, hJ, hL⟩ := sepL_swap hs
    rw [List.insertIdx_succ_cons]
    exact ⟨D, hJ, sepL_back L i I _ (by simpa using e) hL⟩

theorem sepL_drop : ∀ (k : Nat) (L : List HItem) (h : HM), sepL L h → sepL (L.drop k) h
  | 0, L, h, hs => by simpa using hs
  | k + 1, [], h, _ => by simp [sepL]
  | k + 1, J :: L, h, ⟨D, hJ, hL⟩ => by
    rw [List.drop_succ_cons]
    exact sepL_drop k L h (sepL_mono L restr_le hL)

theorem sepL_tail {I : HItem} {L : List HItem} {h : HM} (hs : sepL (I :: L) h) : sepL L h := sepL_drop 1 (I :: L) h hs

theorem sepL_append_left : ∀ (L M : List HItem) (h : HM), sepL (L ++ M) h → sepL L h
  | [], _, _, _ => trivial
  | J :: L, M, h, ⟨D, hJ, hL⟩ => ⟨D, hJ, sepL_append_left L M _ hL⟩

/-- setting the item at place i -/
theorem set_eq : ∀ (L : List HItem) (i : Nat) (I : HItem), i < L.length → (L.eraseIdx i).insertIdx i I = L.set i I
  | [], _, _, h => by simp at h
  | J :: L, 0, I, _ => by simp
  | J :: L, i + 1, I, h => by
    simp only [List.eraseIdx_cons_succ, List.set_cons_succ]
    rw [List.insertIdx_succ_cons, set_eq L i I (by simpa using h)]

theorem sepL_set {L : List HItem} {i : Nat} {I : HItem} {h : HM} (hi : i < L.length) (hs : sepL (I :: L.eraseIdx i) h) : sepL (L.set i I) h := by
  rw [← set_eq L i I hi]
  exact sepL_back _ _ _ _ (by rw [List.length_eraseIdx]; split <;> omega) hs


def hmOf (w : World) : HM := fun b => w.heap[b]?

/-- the world w bears the items L, apart from one another; its streams are those of the world s -/
def Sat (s w : World) (L : List HItem) : Prop := w.os = s.os ∧ w.tape = s.tape ∧ w.output = s.output ∧ sepL L (hmOf w)

theorem Sat.front {s w : World} {L : List HItem} (hs : Sat s w L) (i : Nat) {I : HItem} (e : L[i]? = some I) : Sat s w (I :: L.eraseIdx i) :=
  ⟨hs.1, hs.2.1, hs.2.2.1, sepL_front L i I _ e hs.2.2.2⟩

theorem Sat.back {s w : World} {L : List HItem} {I : HItem} (hs : Sat s w (I :: L)) (i : Nat) (hi : i ≤ L.length) : Sat s w (L.insertIdx i I) :=
  ⟨hs.1, hs.2.1, hs.2.2.1, sepL_back L i I _ hi hs.2.2.2⟩

theorem Sat.drop {s w : World} {L : List HItem} (hs : Sat s w L) (k : Nat) : Sat s w (L.drop k) :=
  ⟨hs.1, hs.2.1, hs.2.2.1, sepL_drop k L _ hs.2.2.2⟩

theorem Sat.tail {s w : World} {I : HItem} {L : List HItem} (hs : Sat s w (I :: L)) : Sat s w L := hs.drop 1

/-- a world that differs in what is drawn alone -/
theorem Sat.congr {s w w' : World} {L : List HItem} (hs : Sat s w L) (h1 : w'.heap = w.heap) (h2 : w'.os = w.os) (h3 : w'.tape = w.tape) (h4 : w'.output = w.output) : Sat s w' L := by
  obtain ⟨a, b, c, d⟩ := hs
  exact ⟨h2.trans a, h3.trans b, h4.trans c, by unfold hmOf; rw [h1]; exact d⟩

theorem Sat.refl (w : World) : Sat w w [] := ⟨rfl, rfl, rfl, trivial⟩

/-! ### Items -/
/-- block b holds the object o -/
def Blk (b : Nat) (o : Obj) : HItem := ⟨fun h => h b = some o, fun _ _ hl h => hl _ _ h⟩

theorem Sat.blk {s w : World} {L : List HItem} (hs : Sat s w L) (i : Nat) {b : Nat} {o : Obj} (e : L[i]? = some (Blk b o)) : w.heap[b]? = some o := by
  obtain ⟨D, hI, _⟩ := (hs.front i e).2.2.2
  exact restr_le b o hI

theorem heap_lt {w : World} {b : Nat} {o : Obj} (h : w.heap[b]? = some o) : b < w.heap.size := (Array.getElem?_eq_some_iff.1 h).1

/-- one block turns: the item that spoke of it speaks of it anew -/
theorem sepL_turn {L : List HItem} {h h' : HM} {b : Nat} {o o' : Obj} (hs : sepL (Blk b o :: L) h) (hb : h' b = some o') (hr : ∀ k, k ≠ b → h' k = h k) : sepL (Blk b o' :: L) h' := by
  obtain ⟨D, hI, hL⟩ := hs
  have hD : D b = true := by
    have : restr D h b = some o := hI
    simp only [restr] at this
    split at this
    · assumption
    · cases this
  refine ⟨D, ?_, sepL_mono L ?_ hL⟩
  · show restr D h' b = some o'
    simp [restr, hD, hb]
  · intro k u hk
    simp only [restr] at hk ⊢
    split at hk
    · rename_i hk'
      rw [if_pos hk']
      have : k ≠ b := by intro e; subst e; simp [hD] at hk'
      rw [hr k this]; exact hk
    · cases hk

theorem sepL_more {L : List HItem} {h h' : HM} {b : Nat} {o : Obj} (hs : sepL L h) (hn : h b = none) (hb : h' b = some o) (hr : ∀ k, k ≠ b → h' k = h k) : sepL (Blk b o :: L) h' := by
  refine ⟨fun k => k == b, ?_, sepL_mono L ?_ hs⟩
  · show restr _ h' b = some o
    simp [restr, hb]
  · intro k u hk
    have : k ≠ b := by intro e; subst e; rw [hn] at hk; cases hk
    simp only [restr]
    rw [if_pos (by simpa using this), hr k this]
    exact hk

theorem Sat.alloc {s w : World} {L : List HItem} (hs : Sat s w L) (o : Obj) : Sat s (w.alloc o) (Blk w.heap.size o :: L) := by
  refine ⟨hs.1, hs.2.1, hs.2.2.1, sepL_more (h := hmOf w) hs.2.2.2 ?_ ?_ ?_⟩
  · simp [hmOf]
  · exact heap_alloc_new w o
  · intro k hk
    show (w.heap.push o)[k]? = w.heap[k]?
    rw [Array.getElem?_push, if_neg hk]

theorem Sat.turn {s w w' : World} {L : List HItem} {b : Nat} {o o' : Obj} (hs : Sat s w (Blk b o :: L)) (h2 : w'.os = w.os) (h3 : w'.tape = w.tape) (h4 : w'.output = w.output)
    (hb : w'.heap[b]? = some o') (hr : ∀ k, k ≠ b → w'.heap[k]? = w.heap[k]?) : Sat s w' (Blk b o' :: L) :=
  ⟨h2.trans hs.1, h3.trans hs.2.1, h4.trans hs.2.2.1, sepL_turn hs.2.2.2 hb hr⟩

/-- all that lay below N when a call began -/
def Base (W : World) : HItem := ⟨fun h => ∀ b, b < W.heap.size → h b = W.heap[b]?, fun _ _ hl h b hb => by
  have := h b hb
  rw [Array.getElem?_eq_getElem hb] at this ⊢
  exact hl _ _ this⟩

theorem Sat.base (W : World) : Sat W W [Base W] :=
  ⟨rfl, rfl, rfl, fun _ => true, fun b _ => by simp [restr, hmOf], trivial⟩

theorem Sat.below {W w : World} {L : List HItem} (hs : Sat W w L) (i : Nat) (e : L[i]? = some (Base W)) : RowKit.Below W.heap.size W w := by
  obtain ⟨D, hI, _⟩ := (hs.front i e).2.2.2
  have hb : ∀ b, b < W.heap.size → w.heap[b]? = W.heap[b]? := by
    intro b hb
    have h := hI b hb
    rw [Array.getElem?_eq_getElem hb] at h ⊢
    exact restr_le b _ h
  refine ⟨hs.1, hs.2.1, hs.2.2.1, ?_, hb⟩
  by_cases hz : W.heap.size = 0
  · omega
  · have h := hb (W.heap.size - 1) (by omega)
    rw [Array.getElem?_eq_getElem (by omega : W.heap.size - 1 < W.heap.size)] at h
    have := heap_lt h
    omega

end Go.Sl
