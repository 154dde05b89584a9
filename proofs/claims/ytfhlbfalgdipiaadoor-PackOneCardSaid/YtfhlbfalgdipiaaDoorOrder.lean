/- Stable sorting: plain laws. -/
import Derived.Test.YtfhlbfalgdipiaaDoorCommitPure
set_option linter.unusedVariables false
set_option linter.unusedSimpArgs false
namespace Go.Sl

abbrev Key := BA 32
theorem bytesLess_irr (l : List UInt8) : Op.bytesLess l l = false := by
  induction l with
  | nil => rfl
  | cons x l ih => simp [Op.bytesLess, ih]
theorem bytesLess_cons' (x y : UInt8) (l m : List UInt8) : Op.bytesLess (x :: l) (y :: m) = if x = y then Op.bytesLess l m else decide (x < y) := by
  by_cases h : x = y
  · subst h; simp [Op.bytesLess]
  · simp [Op.bytesLess, h]
/-- of two that are unlike one is less -/
theorem bytesLess_tri : ∀ (l m : List UInt8), l.length = m.length → Op.bytesLess l m = false → Op.bytesLess m l = false → l = m
  | [], [], _, _, _ => rfl
  | [], _ :: _, h, _, _ => by simp at h
  | _ :: _, [], h, _, _ => by simp at h
  | x :: l, y :: m, h, h1, h2 => by
    rw [bytesLess_cons'] at h1 h2
    by_cases e : x = y
    · subst e
      rw [if_pos rfl] at h1 h2
      rw [bytesLess_tri l m (by simpa using h) h1 h2]
    · rw [if_neg e] at h1
      rw [if_neg (fun q => e q.symm)] at h2
      have h1' := of_decide_eq_false h1
      have h2' := of_decide_eq_false h2
      rw [UInt8.lt_iff_toNat_lt] at h1' h2'
      exact absurd (UInt8.toNat_inj.1 (by omega)) e
theorem bytesLess_tr : ∀ (l m k : List UInt8), l.length = m.length → m.length = k.length → Op.bytesLess l m = true → Op.bytesLess k m = false → Op.bytesLess l k = true
  | [], [], _, _, _, h, _ => by simp [Op.bytesLess] at h
  | [], _ :: _, _, h, _, _, _ => by simp at h
  | _ :: _, [], _, h, _, _, _ => by simp at h
  | _ :: _, _ :: _, [], _, h, _, _ => by simp at h
  | x :: l, y :: m, z :: k, h, h', h1, h2 => by
    rw [bytesLess_cons'] at h1 h2 ⊢
    by_cases e : x = y
    · subst e
      rw [if_pos rfl] at h1
      by_cases e2 : x = z
      · subst e2
        rw [if_pos rfl] at h2 ⊢
        exact bytesLess_tr l m k (by simpa using h) (by simpa using h') h1 h2
      · rw [if_neg (fun q => e2 q.symm)] at h2
        rw [if_neg e2]
        have h2' := of_decide_eq_false h2
        rw [UInt8.lt_iff_toNat_lt] at h2'
        have : x.toNat ≠ z.toNat := fun q => e2 (UInt8.toNat_inj.1 q)
        exact decide_eq_true (UInt8.lt_iff_toNat_lt.2 (by omega))
    · rw [if_neg e] at h1
      have h1' := of_decide_eq_true h1
      rw [UInt8.lt_iff_toNat_lt] at h1'
      have hzy : y.toNat ≤ z.toNat := by
        by_cases e2 : z = y
        · subst e2; exact Nat.le_refl _
        · rw [if_neg e2] at h2
          have h2' := of_decide_eq_false h2
          rw [UInt8.lt_iff_toNat_lt] at h2'; omega
      have hxz : x ≠ z := fun q => by subst q; omega
      rw [if_neg hxz]
      exact decide_eq_true (UInt8.lt_iff_toNat_lt.2 (by omega))
theorem less_asym : ∀ {l m : List UInt8}, Op.bytesLess l m = true → Op.bytesLess m l = true → False
  | [], [], h, _ => by simp [Op.bytesLess] at h
  | [], _ :: _, _, h => by simp [Op.bytesLess] at h
  | _ :: _, [], h, _ => by simp [Op.bytesLess] at h
  | x :: l, y :: m, h1, h2 => by
    rw [bytesLess_cons'] at h1 h2
    by_cases e : x = y
    · subst e
      rw [if_pos rfl] at h1 h2
      exact less_asym h1 h2
    · rw [if_neg e] at h1
      rw [if_neg (fun q => e q.symm)] at h2
      have h1' := of_decide_eq_true h1
      have h2' := of_decide_eq_true h2
      rw [UInt8.lt_iff_toNat_lt] at h1' h2'
      omega
theorem less_tri {a b : Key} (h1 : Op.bytesLess a.val b.val = false) (h2 : Op.bytesLess b.val a.val = false) : a = b := BA.ext' (bytesLess_tri _ _ (by rw [a.len, b.len]) h1 h2)

/-- a slice of bytes, and what it views -/
structure SlV where
  A : Option Addr
  n : Nat
  cap : Nat
  p : List UInt8
@[reducible] def SlV.v (x : SlV) : Value := .slice x.A x.n x.cap
/-- an object and its key -/
structure ItV where
  k : Key
  x : SlV
def lt (a b : ItV) : Bool := Op.bytesLess a.k.val b.k.val
theorem lt_irr (a : ItV) : lt a a = false := bytesLess_irr _
theorem lt_asym {a b : ItV} (h : lt a b = true) : lt b a = false := by
  cases q : lt b a with
  | false => rfl
  | true => exact (less_asym h q).elim
theorem lt_tri {a b : ItV} (h1 : lt a b = false) (h2 : lt b a = false) : a.k = b.k := less_tri h1 h2
/-- a < b ≤ c -/
theorem lt_le {a b c : ItV} (h1 : lt a b = true) (h2 : lt c b = false) : lt a c = true := bytesLess_tr _ _ _ (by rw [a.k.len, b.k.len]) (by rw [b.k.len, c.k.len]) h1 h2
/-- a ≤ b ≤ c -/
theorem le_le {a b c : ItV} (h1 : lt b a = false) (h2 : lt c b = false) : lt c a = false := by
  cases q : lt c a with
  | false => rfl
  | true =>
    have := lt_le q h1
    rw [h2] at this; cases this
/-- a ≤ b < c -/
theorem le_lt {a b c : ItV} (h1 : lt b a = false) (h2 : lt b c = true) : lt a c = true := by
  cases q : lt a c with
  | true => rfl
  | false =>
    have := lt_le h2 q
    rw [h1] at this; cases this
theorem lt_ne {a b : ItV} (h : lt a b = true) : a.k ≠ b.k := fun e => by
  unfold lt at h; rw [e, bytesLess_irr] at h; cases h

def Srt (l : List ItV) : Prop := l.Pairwise fun a b => lt b a = false
def Stb (l m : List ItV) : Prop := ∀ k : Key, l.filter (fun a => decide (a.k = k)) = m.filter (fun a => decide (a.k = k))
theorem Stb.refl (l : List ItV) : Stb l l := fun _ => rfl
theorem Stb.symm {l m : List ItV} (h : Stb l m) : Stb m l := fun k => (h k).symm
theorem Stb.trans {l m n : List ItV} (h : Stb l m) (h2 : Stb m n) : Stb l n := fun k => (h k).trans (h2 k)
theorem Stb.append {l m l' m' : List ItV} (h : Stb l m) (h2 : Stb l' m') : Stb (l ++ l') (m ++ m') := fun k => by rw [List.filter_append, List.filter_append, h k, h2 k]
theorem Stb.mem {l m : List ItV} (h : Stb l m) {a : ItV} (ha : a ∈ l) : a ∈ m := by
  have : a ∈ l.filter (fun b => decide (b.k = a.k)) := List.mem_filter.2 ⟨ha, by simp⟩
  rw [h a.k] at this
  exact (List.mem_filter.1 this).1
theorem Stb.swap {X Y : List ItV} (h : ∀ x ∈ X, ∀ y ∈ Y, x.k ≠ y.k) : Stb (X ++ Y) (Y ++ X) := by
  intro k
  rw [List.filter_append, List.filter_append]
  by_cases hx : X.filter (fun a => decide (a.k = k)) = []
  · rw [hx]; simp
  · have hy : Y.filter (fun a => decide (a.k = k)) = [] := by
      rw [List.filter_eq_nil_iff]
      intro y hy e
      apply hx
      rw [List.filter_eq_nil_iff]
      intro x hx' e2
      exact h x hx' y hy ((of_decide_eq_true e2).trans (of_decide_eq_true e).symm)
    rw [hy]; simp
theorem Stb.cons_inv {a : ItV} {l m : List ItV} (h : Stb (a :: l) (a :: m)) : Stb l m := fun k => by
  have := h k
  rw [List.filter_cons, List.filter_cons] at this
  split at this
  · exact (List.cons.inj this).2
  · exact this
/-- a stable order is one -/
theorem Stb.uniq : ∀ {l m : List ItV}, Srt l → Srt m → Stb l m → l = m
  | [], [], _, _, _ => rfl
  | [], b :: m, _, _, h => absurd (h.symm.mem (a := b) (by simp)) (by simp)
  | a :: l, [], _, _, h => absurd (h.mem (a := a) (by simp)) (by simp)
  | a :: l, b :: m, hl, hm, h => by
    have h1 : lt b a = false := by
      rcases List.mem_cons.1 (h.symm.mem (a := b) (by simp)) with e | e
      · rw [e]; exact lt_irr _
      · exact (List.pairwise_cons.1 hl).1 b e
    have h2 : lt a b = false := by
      rcases List.mem_cons.1 (h.mem (a := a) (by simp)) with e | e
      · rw [e]; exact lt_irr _
      · exact (List.pairwise_cons.1 hm).1 a e
    have hk := lt_tri h2 h1
    have := h a.k
    rw [List.filter_cons_of_pos (by simp), List.filter_cons_of_pos (by simp [hk])] at this
    have e := (List.cons.inj this).1
    subst e
    rw [Stb.uniq (List.pairwise_cons.1 hl).2 (List.pairwise_cons.1 hm).2 h.cons_inv]

/-- the stable order -/
def insB (a : ItV) : List ItV → List ItV
  | [] => [a]
  | b :: l => if lt b a then b :: insB a l else a :: b :: l
def isort : List ItV → List ItV
  | [] => []
  | a :: l => insB a (isort l)
theorem insB_mem (a : ItV) : ∀ (l : List ItV) (x : ItV), x ∈ insB a l ↔ x = a ∨ x ∈ l
  | [], x => by simp [insB]
  | b :: l, x => by
    rw [insB]
    split
    · rw [List.mem_cons, insB_mem a l, List.mem_cons]
      constructor
      · rintro (h | h | h)
        · exact .inr (.inl h)
        · exact .inl h
        · exact .inr (.inr h)
      · rintro (h | h | h)
        · exact .inr (.inl h)
        · exact .inl h
        · exact .inr (.inr h)
    · simp
theorem insB_srt (a : ItV) : ∀ (l : List ItV), Srt l → Srt (insB a l)
  | [], _ => by simp [insB, Srt]
  | b :: l, h => by
    have h' := List.pairwise_cons.1 h
    rw [insB]
    split
    · rename_i hb
      refine List.pairwise_cons.2 ⟨fun x hx => ?_, insB_srt a l h'.2⟩
      rcases (insB_mem a l x).1 hx with rfl | hx
      · exact lt_asym hb
      · exact h'.1 x hx
    · rename_i hb
      have hb' : lt b a = false := by simpa using hb
      refine List.pairwise_cons.2 ⟨fun x hx => ?_, h⟩
      rcases List.mem_cons.1 hx with rfl | hx
      · exact hb'
      · exact le_le hb' (h'.1 x hx)
theorem insB_stb (a : ItV) : ∀ (l : List ItV), Stb (a :: l) (insB a l)
  | [] => .refl _
  | b :: l => by
    rw [insB]
    split
    · rename_i hb
      refine Stb.trans (Stb.append (l := [a, b]) (m := [b, a]) (l' := l) (m' := l) (Stb.swap (X := [a]) (Y := [b]) (fun x hx y hy => ?_)) (.refl _)) (Stb.append (.refl [b]) (insB_stb a l))
      simp at hx hy; subst hx hy; exact (lt_ne hb).symm
    · exact .refl _
theorem insB_len (a : ItV) : ∀ (l : List ItV), (insB a l).length = l.length + 1
  | [] => rfl
  | b :: l => by
    rw [insB]
    split
    · rw [List.length_cons, insB_len a l, List.length_cons]
    · rfl
theorem isort_srt : ∀ l, Srt (isort l)
  | [] => List.Pairwise.nil
  | a :: l => insB_srt a _ (isort_srt l)
theorem isort_stb : ∀ l, Stb l (isort l)
  | [] => .refl _
  | a :: l => Stb.trans (Stb.append (.refl [a]) (isort_stb l)) (insB_stb a _)
theorem isort_len : ∀ l, (isort l).length = l.length
  | [] => rfl
  | a :: l => by rw [isort, insB_len, isort_len l]; rfl
theorem sorted_is {l m : List ItV} (h1 : Srt m) (h2 : Stb l m) : m = isort l := Stb.uniq h1 (isort_srt l) (h2.symm.trans (isort_stb l))

theorem Srt.append {l m : List ItV} (hl : Srt l) (hm : Srt m) (h : ∀ x ∈ l, ∀ y ∈ m, lt y x = false) : Srt (l ++ m) := List.pairwise_append.2 ⟨hl, hm, h⟩
theorem Srt.left {l m : List ItV} (h : Srt (l ++ m)) : Srt l := (List.pairwise_append.1 h).1
theorem Srt.right {l m : List ItV} (h : Srt (l ++ m)) : Srt m := (List.pairwise_append.1 h).2.1
theorem Srt.cross {l m : List ItV} (h : Srt (l ++ m)) : ∀ x ∈ l, ∀ y ∈ m, lt y x = false := (List.pairwise_append.1 h).2.2
theorem Srt.one (a : ItV) : Srt [a] := by simp [Srt]
theorem Srt.nil : Srt [] := List.Pairwise.nil
/-- at a sorted row's end is its greatest -/
theorem Srt.last {l : List ItV} (h : Srt l) {x : ItV} (hx : l[l.length - 1]? = some x) : ∀ y ∈ l, lt x y = false := by
  intro y hy
  obtain ⟨i, hi, rfl⟩ := List.getElem_of_mem hy
  obtain ⟨hl, rfl⟩ := List.getElem?_eq_some_iff.1 hx
  by_cases e : i = l.length - 1
  · subst e; exact lt_irr _
  · exact List.pairwise_iff_getElem.1 h i (l.length - 1) hi hl (by omega)
theorem Srt.first {l : List ItV} (h : Srt l) {x : ItV} (hx : l[0]? = some x) : ∀ y ∈ l, lt y x = false := by
  intro y hy
  obtain ⟨i, hi, rfl⟩ := List.getElem_of_mem hy
  obtain ⟨hl, rfl⟩ := List.getElem?_eq_some_iff.1 hx
  by_cases e : i = 0
  · subst e; exact lt_irr _
  · exact List.pairwise_iff_getElem.1 h 0 i hl hi (by omega)
/-- one is put into a sorted row, behind all that are not greater -/
theorem put_in {S1 S2 : List ItV} {x : ItV} (h : Srt (S1 ++ S2)) (h1 : ∀ y, S1[S1.length - 1]? = some y → lt x y = false) (h2 : ∀ y, S2[0]? = some y → lt x y = true) :
    Srt (S1 ++ x :: S2) ∧ Stb (S1 ++ S2 ++ [x]) (S1 ++ x :: S2) := by
  have hg : ∀ y ∈ S2, lt x y = true := by
    intro y hy
    cases S2 with
    | nil => simp at hy
    | cons z l =>
      have hz := h2 z rfl
      exact lt_le hz (h.right.first (x := z) rfl y hy)
  refine ⟨Srt.append h.left (List.pairwise_cons.2 ⟨fun y hy => lt_asym (hg y hy), h.right⟩) (fun a ha y hy => ?_), ?_⟩
  · rcases List.mem_cons.1 hy with rfl | hy
    · cases hS : S1[S1.length - 1]? with
      | none =>
        have := List.getElem?_eq_none_iff.1 hS
        have : S1 = [] := List.eq_nil_of_length_eq_zero (by omega)
        subst this; simp at ha
      | some z => exact le_le (h.left.last hS a ha) (h1 z hS)
    · exact h.cross a ha y hy
  · rw [List.append_assoc]
    exact Stb.append (.refl S1) (Stb.swap (X := S2) (Y := [x]) (fun a ha b hb => by simp at hb; subst hb; exact (lt_ne (hg a ha)).symm))
/-- one is put into a sorted row, ahead of all that are not less -/
theorem put_in2 {S1 S2 : List ItV} {x : ItV} (h : Srt (S1 ++ S2)) (h1 : ∀ y, S1[S1.length - 1]? = some y → lt y x = true) (h2 : ∀ y, S2[0]? = some y → lt y x = false) :
    Srt (S1 ++ x :: S2) ∧ Stb (x :: (S1 ++ S2)) (S1 ++ x :: S2) := by
  have hg : ∀ y ∈ S1, lt y x = true := by
    intro y hy
    cases hS : S1[S1.length - 1]? with
    | none =>
      have := List.getElem?_eq_none_iff.1 hS
      have : S1 = [] := List.eq_nil_of_length_eq_zero (by omega)
      subst this; simp at hy
    | some z => exact le_lt (h.left.last hS y hy) (h1 z hS)
  have hg2 : ∀ y ∈ S2, lt y x = false := by
    intro y hy
    cases S2 with
    | nil => simp at hy
    | cons z l => exact le_le (h2 z rfl) (h.right.first (x := z) rfl y hy)
  refine ⟨Srt.append h.left (List.pairwise_cons.2 ⟨hg2, h.right⟩) (fun a ha y hy => ?_), ?_⟩
  · rcases List.mem_cons.1 hy with rfl | hy
    · exact lt_asym (hg a ha)
    · exact h.cross a ha y hy
  · have := Stb.append (Stb.swap (X := [x]) (Y := S1) (fun a ha b hb => by simp at ha; subst ha; exact (lt_ne (hg b hb)).symm)) (.refl S2)
    simpa using this
/-- two sorted rows, cut so that the middle changes places -/
theorem merge_cut {A1 U V B2 : List ItV} (hA : Srt (A1 ++ U)) (hB : Srt (V ++ B2)) (h1 : ∀ x y, A1[A1.length - 1]? = some x → B2[0]? = some y → lt y x = false)
    (h2 : ∀ x y, U[0]? = some x → V[V.length - 1]? = some y → lt y x = true) {C1 C2 : List ItV} (s1 : Srt C1) (s2 : Srt C2) (t1 : Stb (A1 ++ V) C1) (t2 : Stb (U ++ B2) C2) :
    Srt (C1 ++ C2) ∧ Stb (A1 ++ U ++ (V ++ B2)) (C1 ++ C2) := by
  have hvu : ∀ u ∈ U, ∀ v ∈ V, lt v u = true := by
    intro u hu v hv
    cases hU : U[0]? with
    | none =>
      have := List.getElem?_eq_none_iff.1 hU
      have : U = [] := List.eq_nil_of_length_eq_zero (by omega)
      subst this; simp at hu
    | some x =>
      cases hV : V[V.length - 1]? with
      | none =>
        have := List.getElem?_eq_none_iff.1 hV
        have : V = [] := List.eq_nil_of_length_eq_zero (by omega)
        subst this; simp at hv
      | some y => exact lt_le (le_lt (hB.left.last hV v hv) (h2 x y hU hV)) (hA.right.first hU u hu)
  refine ⟨Srt.append s1 s2 (fun x hx y hy => ?_), ?_⟩
  · have hx' := t1.symm.mem hx
    have hy' := t2.symm.mem hy
    rcases List.mem_append.1 hx' with hx | hx <;> rcases List.mem_append.1 hy' with hy | hy
    · exact hA.cross x hx y hy
    · cases hA1 : A1[A1.length - 1]? with
      | none =>
        have := List.getElem?_eq_none_iff.1 hA1
        have : A1 = [] := List.eq_nil_of_length_eq_zero (by omega)
        subst this; simp at hx
      | some p =>
        cases hB2 : B2[0]? with
        | none =>
          have := List.getElem?_eq_none_iff.1 hB2
          have : B2 = [] := List.eq_nil_of_length_eq_zero (by omega)
          subst this; simp at hy
        | some q => exact le_le (hA.left.last hA1 x hx) (le_le (h1 p q hA1 hB2) (hB.right.first hB2 y hy))
    · exact lt_asym (hvu y hy x hx)
    · exact hB.cross x hx y hy
  · have e1 : Stb (A1 ++ U ++ (V ++ B2)) (A1 ++ V ++ (U ++ B2)) := by
      have := Stb.append (.refl A1) (Stb.append (Stb.swap (X := U) (Y := V) (fun u hu v hv => (lt_ne (hvu u hu v hv)).symm)) (.refl B2))
      simpa [List.append_assoc] using this
    exact e1.trans (Stb.append t1 t2)

/-! ### rows that are turned -/
def swp (l : List ItV) (i j : Nat) : List ItV := match l[i]?, l[j]? with
  | some a, some b => (l.set i b).set j a
  | _, _ => l
theorem swp_eq {l : List ItV} {i j : Nat} {a b : ItV} (ha : l[i]? = some a) (hb : l[j]? = some b) : swp l i j = (l.set i b).set j a := by rw [swp, ha, hb]
theorem swp_len (l : List ItV) (i j : Nat) : (swp l i j).length = l.length := by
  unfold swp; split <;> simp
/-- one goes back by one place -/
theorem swp_back (P Q : List ItV) (x y : ItV) : swp (P ++ y :: x :: Q) (P.length + 1) P.length = P ++ x :: y :: Q ∧ swp (P ++ y :: x :: Q) P.length (P.length + 1) = P ++ x :: y :: Q := by
  have h1 : (P ++ y :: x :: Q)[P.length + 1]? = some x := by rw [List.getElem?_append_right (by omega)]; simp
  have h2 : (P ++ y :: x :: Q)[P.length]? = some y := by rw [List.getElem?_append_right (by omega)]; simp
  rw [swp_eq h1 h2, swp_eq h2 h1]
  constructor
  · rw [List.set_append_right _ _ (by omega), List.set_append_right _ _ (by omega)]; simp
  · rw [List.set_append_right _ _ (by omega), List.set_append_right _ _ (by omega)]; simp
def swpN (l : List ItV) (a b : Nat) : Nat → List ItV
  | 0 => l
  | n + 1 => swp (swpN l a b n) (a + n) (b + n)
theorem swpN_len (l : List ItV) (a b : Nat) : ∀ n, (swpN l a b n).length = l.length
  | 0 => rfl
  | n + 1 => by rw [swpN, swp_len, swpN_len l a b n]
theorem swpN_part (P X M Y Q : List ItV) : ∀ n, n ≤ X.length → n ≤ Y.length → swpN (P ++ X ++ M ++ Y ++ Q) P.length (P.length + X.length + M.length) n = P ++ (Y.take n ++ X.drop n) ++ M ++ (X.take n ++ Y.drop n) ++ Q
  | 0, _, _ => by simp [swpN]
  | n + 1, hx, hy => by
    rw [swpN, swpN_part P X M Y Q n (by omega) (by omega)]
    obtain ⟨x, hxn⟩ : ∃ x, X[n]? = some x := ⟨_, List.getElem?_eq_getElem (by omega)⟩
    obtain ⟨y, hyn⟩ : ∃ y, Y[n]? = some y := ⟨_, List.getElem?_eq_getElem (by omega)⟩
    have dx : X.drop n = x :: X.drop (n + 1) := by rw [List.drop_eq_getElem_cons (by omega)]; congr 1; exact (List.getElem?_eq_some_iff.1 hxn).2
    have dy : Y.drop n = y :: Y.drop (n + 1) := by rw [List.drop_eq_getElem_cons (by omega)]; congr 1; exact (List.getElem?_eq_some_iff.1 hyn).2
    have tx : X.take (n + 1) = X.take n ++ [x] := by rw [List.take_add_one, hxn]; rfl
    have ty : Y.take (n + 1) = Y.take n ++ [y] := by rw [List.take_add_one, hyn]; rfl
    rw [dx, dy, tx, ty]
    have l1 : (X.take n).length = n := by rw [List.length_take]; omega
    have l2 : (Y.take n).length = n := by rw [List.length_take]; omega
    have l3 : (X.drop (n + 1)).length + n + 1 = X.length := by rw [List.length_drop]; omega
    generalize X.drop (n + 1) = X2 at *
    generalize Y.drop (n + 1) = Y2 at *
    generalize X.take n = X1 at *
    generalize Y.take n = Y1 at *
    have g1 : (P ++ (Y1 ++ x :: X2) ++ M ++ (X1 ++ y :: Y2) ++ Q) = (P ++ Y1) ++ x :: ((X2 ++ M ++ X1) ++ y :: (Y2 ++ Q)) := by simp
    have h1 : (P ++ (Y1 ++ x :: X2) ++ M ++ (X1 ++ y :: Y2) ++ Q)[P.length + n]? = some x := by
      rw [g1, List.getElem?_append_right (by simp; omega)]
      simp [l2]
    have h2 : (P ++ (Y1 ++ x :: X2) ++ M ++ (X1 ++ y :: Y2) ++ Q)[P.length + X.length + M.length + n]? = some y := by
      rw [g1, List.getElem?_append_right (by simp; omega), List.length_append, l2, show P.length + X.length + M.length + n - (P.length + n) = (X2 ++ M ++ X1).length + 1 by simp; omega, List.getElem?_cons_succ, List.getElem?_append_right (by omega)]
      simp
    rw [swp_eq h1 h2, g1, List.set_append_right _ _ (by simp; omega), List.length_append, l2, show P.length + n - (P.length + n) = 0 by omega, List.set_cons_zero, List.set_append_right _ _ (by simp; omega), List.length_append, l2,
      show P.length + X.length + M.length + n - (P.length + n) = (X2 ++ M ++ X1).length + 1 by simp; omega, List.set_cons_succ, List.set_append_right _ _ (by omega), Nat.sub_self, List.set_cons_zero]
    simp
theorem swpN_all (P X M Y Q : List ItV) (h : X.length = Y.length) : swpN (P ++ X ++ M ++ Y ++ Q) P.length (P.length + X.length + M.length) X.length = P ++ Y ++ M ++ X ++ Q := by
  rw [swpN_part P X M Y Q X.length (Nat.le_refl _) (by omega), List.drop_length, List.take_length, h, List.drop_length, List.take_length]
  simp
/-- one that stands in a row, at place q -/
def mvL (P S R : List ItV) (x : ItV) (q : Nat) : List ItV := P ++ (S.take q ++ x :: S.drop q) ++ R
theorem mvL_len (P S R : List ItV) (x : ItV) (q : Nat) : (mvL P S R x q).length = P.length + S.length + 1 + R.length := by
  simp [mvL]; omega
theorem mvL_get (P S R : List ItV) (x : ItV) (q : Nat) (hq : q ≤ S.length) : (mvL P S R x q)[P.length + q]? = some x := by
  have : (P ++ S.take q).length = P.length + q := by simp; omega
  unfold mvL
  rw [show P ++ (S.take q ++ x :: S.drop q) ++ R = (P ++ S.take q) ++ x :: (S.drop q ++ R) by simp, List.getElem?_append_right (by omega), this, Nat.sub_self]; rfl
theorem mvL_step (P S R : List ItV) (x z : ItV) (q : Nat) (hz : S[q]? = some z) : mvL P S R x (q + 1) = (P ++ S.take q) ++ z :: x :: (S.drop (q + 1) ++ R) ∧ mvL P S R x q = (P ++ S.take q) ++ x :: z :: (S.drop (q + 1) ++ R) := by
  obtain ⟨hlt, e⟩ := List.getElem?_eq_some_iff.1 hz
  have d : S.drop q = z :: S.drop (q + 1) := by rw [List.drop_eq_getElem_cons hlt, e]
  have t : S.take (q + 1) = S.take q ++ [z] := by rw [List.take_add_one, hz]; rfl
  constructor
  · rw [mvL, t]; simp
  · rw [mvL, d]; simp
theorem mvL_prev (P S R : List ItV) (x z : ItV) (q : Nat) (hz : S[q]? = some z) : (mvL P S R x (q + 1))[P.length + q]? = some z := by
  obtain ⟨hlt, e⟩ := List.getElem?_eq_some_iff.1 hz
  have : (P ++ S.take q).length = P.length + q := by simp; omega
  rw [(mvL_step P S R x z q hz).1, List.getElem?_append_right (by omega), this, Nat.sub_self]; rfl
theorem mvL_next (P S R : List ItV) (x z : ItV) (q : Nat) (hz : S[q]? = some z) : (mvL P S R x q)[P.length + q + 1]? = some z := by
  obtain ⟨hlt, e⟩ := List.getElem?_eq_some_iff.1 hz
  have : (P ++ S.take q).length = P.length + q := by simp; omega
  rw [(mvL_step P S R x z q hz).2, List.getElem?_append_right (by omega), this, show P.length + q + 1 - (P.length + q) = 1 by omega]; rfl
theorem mvL_back (P S R : List ItV) (x z : ItV) (q : Nat) (hz : S[q]? = some z) : ((mvL P S R x (q + 1)).set (P.length + q + 1) z).set (P.length + q) x = mvL P S R x q := by
  obtain ⟨hlt, e⟩ := List.getElem?_eq_some_iff.1 hz
  have hl : (P ++ S.take q).length = P.length + q := by simp; omega
  show ((mvL P S R x (q + 1)).set (P.length + (q + 1)) z).set (P.length + q) x = _
  rw [← swp_eq (mvL_get P S R x (q + 1) (by omega)) (mvL_prev P S R x z q hz), (mvL_step P S R x z q hz).1, (mvL_step P S R x z q hz).2, show P.length + (q + 1) = (P ++ S.take q).length + 1 by omega, show P.length + q = (P ++ S.take q).length by omega]
  exact (swp_back _ _ x z).1
theorem mvL_forth (P S R : List ItV) (x z : ItV) (q : Nat) (hz : S[q]? = some z) : ((mvL P S R x q).set (P.length + q) z).set (P.length + q + 1) x = mvL P S R x (q + 1) := by
  obtain ⟨hlt, e⟩ := List.getElem?_eq_some_iff.1 hz
  have hl : (P ++ S.take q).length = P.length + q := by simp; omega
  rw [← swp_eq (mvL_get P S R x q (by omega)) (mvL_next P S R x z q hz), (mvL_step P S R x z q hz).1, (mvL_step P S R x z q hz).2, show P.length + q + 1 = (P ++ S.take q).length + 1 by omega, show P.length + q = (P ++ S.take q).length by omega]
  exact (swp_back _ _ z x).2
theorem ins_step {T S : List ItV} {x : ItV} {q : Nat} (hS : S = isort T) (hq : q ≤ S.length) (h1 : ∀ y, 0 < q → S[q - 1]? = some y → lt x y = false) (h2 : ∀ y, S[q]? = some y → lt x y = true) : S.take q ++ x :: S.drop q = isort (T ++ [x]) := by
  have hs : Srt (S.take q ++ S.drop q) := by rw [List.take_append_drop, hS]; exact isort_srt T
  obtain ⟨a, b⟩ := put_in hs (x := x) (fun y hy => by
    rw [List.length_take, Nat.min_eq_left hq] at hy
    by_cases e : q = 0
    · subst e; simp at hy
    · rw [List.getElem?_take_of_lt (by omega)] at hy; exact h1 y (by omega) hy) (fun y hy => by
    rw [List.getElem?_drop] at hy; exact h2 y (by simpa using hy))
  refine sorted_is a (Stb.trans (Stb.append (isort_stb T) (.refl [x])) ?_)
  rw [List.take_append_drop, hS] at b
  rw [hS] at *
  exact b
theorem isort_id {l : List ItV} (h : Srt l) : isort l = l := (sorted_is h (.refl l)).symm
theorem put_last {S : List ItV} {x : ItV} {q : Nat} (hS : Srt S) (hq : q ≤ S.length) (h1 : ∀ y, 0 < q → S[q - 1]? = some y → lt x y = false) (h2 : ∀ y, S[q]? = some y → lt x y = true) : S.take q ++ x :: S.drop q = isort (S ++ [x]) :=
  ins_step (isort_id hS).symm hq h1 h2
theorem put_first {S : List ItV} {x : ItV} {q : Nat} (hS : Srt S) (hq : q ≤ S.length) (h1 : ∀ y, 0 < q → S[q - 1]? = some y → lt y x = true) (h2 : ∀ y, S[q]? = some y → lt y x = false) : S.take q ++ x :: S.drop q = isort ([x] ++ S) := by
  have hs : Srt (S.take q ++ S.drop q) := by rw [List.take_append_drop]; exact hS
  obtain ⟨a, b⟩ := put_in2 hs (x := x) (fun y hy => by
    rw [List.length_take, Nat.min_eq_left hq] at hy
    by_cases e : q = 0
    · subst e; simp at hy
    · rw [List.getElem?_take_of_lt (by omega)] at hy; exact h1 y (by omega) hy) (fun y hy => by
    rw [List.getElem?_drop] at hy; exact h2 y (by simpa using hy))
  rw [List.take_append_drop] at b
  exact sorted_is a b
/-- how two sorted rows are cut -/
theorem sym_plan {P A B Q D : List ItV} (hd : D = P ++ A ++ B ++ Q) {a m b mid n st st0 r0 : Nat} (ha : a = P.length) (hm : m = P.length + A.length) (hb : b = m + B.length) (hmid : mid = (a + b) / 2) (hn : n = mid + m)
    (h0 : (mid < m ∧ st0 = n - b ∧ r0 = mid) ∨ (m ≤ mid ∧ st0 = a ∧ r0 = m)) (h1 : st0 ≤ st) (h2 : st ≤ r0)
    (hL : st = st0 ∨ ∀ x y, D[st - 1]? = some x → D[n - st]? = some y → lt y x = false) (hR : st = r0 ∨ ∀ x y, D[st]? = some x → D[n - 1 - st]? = some y → lt y x = true) (hA : Srt A) (hB : Srt B) :
    ∃ A1 U V B2, A = A1 ++ U ∧ B = V ++ B2 ∧ a + A1.length = st ∧ st + U.length = m ∧ m + V.length = n - st ∧ n - st + B2.length = b ∧ mid = st + V.length ∧ isort (A1 ++ V) ++ isort (U ++ B2) = isort (A ++ B) := by
  have ga : ∀ i, i < A.length → D[a + i]? = A[i]? := fun i hi => by
    rw [hd, ha, List.append_assoc, List.append_assoc, List.getElem?_append_right (by omega), List.getElem?_append_left (by omega)]
    congr 1; omega
  have gb : ∀ i, i < B.length → D[m + i]? = B[i]? := fun i hi => by
    rw [hd, hm, List.append_assoc, List.getElem?_append_right (by rw [List.length_append]; omega), List.length_append, List.getElem?_append_left (by omega)]
    congr 1; omega
  obtain ⟨f1, f2, f3, f4⟩ : a ≤ st ∧ st ≤ m ∧ m ≤ n - st ∧ n - st ≤ b := by omega
  refine ⟨A.take (st - a), A.drop (st - a), B.take (n - st - m), B.drop (n - st - m), (List.take_append_drop _ _).symm, (List.take_append_drop _ _).symm, ?_, ?_, ?_, ?_, ?_, ?_⟩
  · rw [List.length_take]; omega
  · rw [List.length_drop]; omega
  · rw [List.length_take]; omega
  · rw [List.length_drop]; omega
  · rw [List.length_take]; omega
  · have hA' : Srt (A.take (st - a) ++ A.drop (st - a)) := by rw [List.take_append_drop]; exact hA
    have hB' : Srt (B.take (n - st - m) ++ B.drop (n - st - m)) := by rw [List.take_append_drop]; exact hB
    obtain ⟨q1, q2⟩ := merge_cut hA' hB' (fun x y hx hy => by
      rw [List.length_take, Nat.min_eq_left (by omega)] at hx
      rw [List.getElem?_drop] at hy
      have e1 : 0 < st - a := by
        rcases Nat.eq_zero_or_pos (st - a) with e | e
        · rw [e] at hx; simp at hx
        · exact e
      have e2 : n - st - m < B.length := by
        rcases Nat.lt_or_ge (n - st - m) B.length with e | e
        · exact e
        · rw [List.getElem?_eq_none (by omega)] at hy; cases hy
      rw [List.getElem?_take_of_lt (by omega), ← ga _ (by omega), show a + (st - a - 1) = st - 1 by omega] at hx
      rw [Nat.add_zero, ← gb _ (by omega), show m + (n - st - m) = n - st by omega] at hy
      rcases hL with e | hL
      · exfalso; omega
      · exact hL x y hx hy) (fun x y hx hy => by
      rw [List.length_take, Nat.min_eq_left (by omega)] at hy
      rw [List.getElem?_drop] at hx
      have e1 : st - a < A.length := by
        rcases Nat.lt_or_ge (st - a) A.length with e | e
        · exact e
        · rw [List.getElem?_eq_none (by omega)] at hx; cases hx
      have e2 : 0 < n - st - m := by
        rcases Nat.eq_zero_or_pos (n - st - m) with e | e
        · rw [e] at hy; simp at hy
        · exact e
      rw [Nat.add_zero, ← ga _ (by omega), show a + (st - a) = st by omega] at hx
      rw [List.getElem?_take_of_lt (by omega), ← gb _ (by omega), show m + (n - st - m - 1) = n - 1 - st by omega] at hy
      rcases hR with e | hR
      · exfalso; omega
      · exact hR x y hx hy) (isort_srt _) (isort_srt _) (isort_stb _) (isort_stb _)
    rw [List.take_append_drop, List.take_append_drop] at q2
    exact sorted_is q1 q2
theorem mid_u (i j : Nat) (h : i + j < 9223372036854775808) : (UInt64.ofNat ((UInt64.ofInt ((i : Int) + (j : Int))).toNat / 2 ^ (1 : Int).toNat)).toNat = (i + j) / 2 := by
  have e : (UInt64.ofInt ((i : Int) + (j : Int))).toNat = i + j := by
    have := B.wrap_u64 ((i : Int) + (j : Int))
    simp only [IntKind.wrap, IntKind.signed, IntKind.bits, Bool.false_and, Bool.false_eq_true, if_false] at this
    omega
  rw [e, UInt64.toNat_ofNat']
  show (i + j) / 2 % _ = _
  omega
/-- sorted pieces of k each -/
def FB (k : Nat) (P : List ItV) : Prop := ∃ Ls : List (List ItV), P = Ls.flatten ∧ ∀ M ∈ Ls, M.length = k ∧ Srt M
/-- and one that is shorter -/
def BL (k : Nat) (l : List ItV) : Prop := ∃ (Ls : List (List ItV)) (R : List ItV), l = Ls.flatten ++ R ∧ (∀ M ∈ Ls, M.length = k ∧ Srt M) ∧ R.length < k ∧ Srt R
theorem FB.nil (k : Nat) : FB k [] := ⟨[], rfl, fun M h => by simp at h⟩
theorem FB.more {k : Nat} {P M : List ItV} (h : FB k P) (hl : M.length = k) (hs : Srt M) : FB k (P ++ M) := by
  obtain ⟨Ls, e, hL⟩ := h
  refine ⟨Ls ++ [M], by rw [e]; simp, fun N hN => ?_⟩
  rcases List.mem_append.1 hN with q | q
  · exact hL N q
  · simp at q; subst q; exact ⟨hl, hs⟩
theorem FB.end {k : Nat} {P R : List ItV} (h : FB k P) (hl : R.length < k) (hs : Srt R) : BL k (P ++ R) := by
  obtain ⟨Ls, e, hL⟩ := h
  exact ⟨Ls, R, by rw [e], hL, hl, hs⟩
theorem BL.whole {k : Nat} {l : List ItV} (h : BL k l) (hl : l.length ≤ k) : Srt l := by
  obtain ⟨Ls, R, e, hL, _, hs⟩ := h
  cases Ls with
  | nil => rw [e]; simpa using hs
  | cons M Ls =>
    have h1 := hL M (by simp)
    have : l.length = M.length + Ls.flatten.length + R.length := by rw [e]; simp; omega
    have e1 : Ls.flatten = [] := List.eq_nil_of_length_eq_zero (by omega)
    have e2 : R = [] := List.eq_nil_of_length_eq_zero (by omega)
    rw [e, List.flatten_cons, e1, e2]
    simpa using h1.2
theorem Stb.mid {l P M Q : List ItV} (h : Stb l (P ++ M ++ Q)) : Stb l (P ++ isort M ++ Q) := h.trans (Stb.append (Stb.append (.refl P) (isort_stb M)) (.refl Q))
end Go.Sl
