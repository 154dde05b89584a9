/- Charts' bytes, and back: plain facts. -/
import Derived.Test.YtckdkncmkpoghaaWirePure
import Derived.Test.YtckdkncmkpoghaaEyeBack
set_option linter.unusedVariables false
namespace Go.Sl

theorem eyeRaw_enc2 (x r : List UInt8) (n : Int) (h : (x.length : Int) = n) : eyeRaw (0, x ++ r) n = (x, (0, r)) := by
  unfold eyeRaw
  by_cases h0 : n ≤ 0
  · have : x = [] := List.eq_nil_of_length_eq_zero (by omega)
    subst this
    rw [if_pos (.inr h0)]; rfl
  · rw [if_neg (by rintro (q | q); exact q rfl; exact h0 q), if_neg (by simp; omega)]
    have : n.toNat = x.length := by omega
    rw [this]; simp
theorem eyeText_enc2 (p r : List UInt8) (most : Int) (h : (p.length : Int) ≤ most) (h2 : p.length ≤ 1000000) : eyeText (0, numN p.length ++ (p ++ r)) most = (p, (0, r)) := by
  rw [← List.append_assoc, eyeText_enc p r most (by omega) (by omega), if_neg (by omega)]
theorem eyeNum_enc2 (m : Nat) (r : List UInt8) (most : Int) (h : (m : Int) ≤ most) (h2 : m ≤ 1000000000) : eyeNum (0, numN m ++ r) most = ((m : Int), (0, r)) := by
  rw [eyeNum_numN m r most (by omega), if_neg (by omega)]
theorem getN_most2 (most : Int) : ∀ (l : List UInt8) (i u : Nat), 0 ≤ (getN l i u most).1 ∧ (getN l i u most).1 ≤ max most 0
  | [], i, u => by simp only [getN]; omega
  | b :: r, i, u => by
    rw [getN]
    split
    · simp only; omega
    · split
      · exact getN_most2 most r _ _
      · split
        · simp only; omega
        · simp only; omega
theorem eyeNum_most2 (st : Int × List UInt8) (most : Int) : 0 ≤ (eyeNum st most).1 ∧ (eyeNum st most).1 ≤ max most 0 := by
  unfold eyeNum; split
  · exact getN_most2 most _ _ _
  · simp only; omega

theorem getN_len2 (most : Int) : ∀ (l : List UInt8) (i u : Nat), (getN l i u most).2.2.length ≤ l.length
  | [], i, u => by simp [getN]
  | b :: r, i, u => by
    rw [getN]
    split
    · simp
    · split
      · exact Nat.le_succ_of_le (getN_len2 most r _ _)
      · split <;> simp
theorem eyeNum_len2 (st : Int × List UInt8) (most : Int) : (eyeNum st most).2.2.length ≤ st.2.length := by
  unfold eyeNum; split
  · exact getN_len2 most _ _ _
  · exact Nat.le_refl _
theorem eyeRaw_len2 (st : Int × List UInt8) (n : Int) : (eyeRaw st n).2.2.length ≤ st.2.length := by
  unfold eyeRaw; split
  · exact Nat.le_refl _
  · split <;> simp
theorem eyeText_len2 (st : Int × List UInt8) (most : Int) : (eyeText st most).2.2.length ≤ st.2.length := Nat.le_trans (eyeRaw_len2 _ _) (eyeNum_len2 _ _)

/-- the next element, behind one of a number -/
def rdE (last : Int) (st : Int × List UInt8) : El × (Int × List UInt8) :=
  let a := eyeNum st 1048576
  let b := eyeNum a.2 255
  let c := eyeNum b.2 1048576
  let d := eyeNum c.2 1048576
  let f := eyeNum d.2 1048576
  let g := eyeNum f.2 1048576
  let n := eyeText g.2 12
  let v := eyeText n.2 12
  let u := eyeText v.2 12
  let t := eyeText u.2 12
  (⟨last + a.1, UInt8.ofInt b.1, c.1, d.1, n.1, f.1, g.1, v.1, u.1, t.1⟩, t.2)
theorem u8_ofInt_toNat (x : UInt8) : UInt8.ofInt (x.toNat : Int) = x := by
  apply UInt8.toNat_inj.1
  have := x.toNat_lt
  simp [UInt8.ofInt, UInt8.toNat_ofNat']; omega
theorem u8_toNat_ofInt {n : Int} (h0 : 0 ≤ n) (h : n ≤ 255) : (UInt8.ofInt n).toNat = n.toNat := by
  simp [UInt8.ofInt, UInt8.toNat_ofNat']; omega
theorem rdE_enc (last : Int) (e : El) (r : List UInt8) (h : OkE e) (h0 : 0 ≤ last) (hl : last ≤ e.id) : rdE last (0, encE last e ++ r) = (e, (0, r)) := by
  obtain ⟨h1, h2, h3, h4⟩ := h
  simp only [List.mem_cons, List.not_mem_nil, or_false, forall_eq_or_imp, forall_eq] at h1 h2
  obtain ⟨⟨p1, p2⟩, ⟨p3, p4⟩, ⟨p5, p6⟩, p7, p8⟩ := h1
  obtain ⟨q1, q2, q3, q4⟩ := h2
  have hk := e.kind.toNat_lt
  simp only [rdE, encE, List.append_assoc]
  rw [eyeNum_enc2 _ _ _ (by omega) (by omega)]
  simp only []
  rw [eyeNum_enc2 _ _ _ (by omega) (by omega)]
  simp only []
  rw [eyeNum_enc2 _ _ _ (by omega) (by omega)]
  simp only []
  rw [eyeNum_enc2 _ _ _ (by omega) (by omega)]
  simp only []
  rw [eyeNum_enc2 _ _ _ (by omega) (by omega)]
  simp only []
  rw [eyeNum_enc2 _ _ _ (by omega) (by omega)]
  simp only []
  rw [eyeText_enc2 _ _ _ (by omega) (by omega)]
  simp only []
  rw [eyeText_enc2 _ _ _ (by omega) (by omega)]
  simp only []
  rw [eyeText_enc2 _ _ _ (by omega) (by omega)]
  simp only []
  rw [eyeText_enc2 _ _ _ (by omega) (by omega)]
  rw [u8_ofInt_toNat, Int.toNat_of_nonneg (by omega), Int.toNat_of_nonneg p1, Int.toNat_of_nonneg p3, Int.toNat_of_nonneg p5, Int.toNat_of_nonneg p7, show last + (e.id - last) = e.id by omega]
theorem rdE_back (last : Int) {st : Int × List UInt8} (h : (rdE last st).2.1 = 0) : st.1 = 0 ∧ st.2 = encE last (rdE last st).1 ++ (rdE last st).2.2 := by
  simp only [rdE] at h ⊢
  obtain ⟨k1, e1⟩ := eyeText_back h
  obtain ⟨k2, e2⟩ := eyeText_back k1
  obtain ⟨k3, e3⟩ := eyeText_back k2
  obtain ⟨k4, e4⟩ := eyeText_back k3
  obtain ⟨k5, e5, b5⟩ := eyeNum_back k4
  obtain ⟨k6, e6, b6⟩ := eyeNum_back k5
  obtain ⟨k7, e7, b7⟩ := eyeNum_back k6
  obtain ⟨k8, e8, b8⟩ := eyeNum_back k7
  obtain ⟨k9, e9, b9⟩ := eyeNum_back k8
  obtain ⟨k10, e10, b10⟩ := eyeNum_back k9
  have hm := (eyeNum_most2 (eyeNum st 1048576).2 255).2
  refine ⟨k10, ?_⟩
  simp only [encE]
  rw [u8_toNat_ofInt b9 (by omega), show ∀ x : Int, last + x - last = x from fun x => by omega]
  simp only [List.append_assoc] at e1 e2 e3 e4 ⊢
  rw [← e1, ← e2, ← e3, ← e4, ← e5, ← e6, ← e7, ← e8, ← e9, ← e10]

/-- what a decoder's loop keeps: so many elements are read, of n -/
def DecI (p : List UInt8) (n : Int) (i : Nat) (l : List El) (last : Int) (st : Int × List UInt8) : Prop :=
  (st.1 = 0 → p = [67, 49] ++ numN n.toNat ++ encEs 0 l ++ st.2 ∧ l.length = i) ∧ last = lastId 0 l ∧
  (∀ c, RightC c → p = encC c → st.1 = 0 ∧ ∃ r, c = l ++ r ∧ st.2 = encEs last r ∧ n = c.length)
/-- what a decoder answers -/
def DecR (p : List UInt8) (e : Int) (l : List El) : Prop := ((e = 7 ∧ l = []) ∨ (e = 0 ∧ RightC l ∧ encC l = p)) ∧ ∀ c, RightC c → p = encC c → e = 0 ∧ l = c
theorem enc_mark (c : List El) : eyeRaw (0, encC c) 2 = ([67, 49], (0, numN c.length ++ encEs 0 c)) := by
  rw [encC, List.append_assoc]
  exact eyeRaw_enc2 [67, 49] _ 2 rfl
theorem DecI_start {p : List UInt8} (h : (eyeRaw (0, p) 2).1 = [67, 49]) : DecI p (eyeNum (eyeRaw (0, p) 2).2 40).1 0 [] 0 (eyeNum (eyeRaw (0, p) 2).2 40).2 := by
  refine ⟨fun h0 => ?_, rfl, fun c hc hp => ?_⟩
  · obtain ⟨h1, h2, h3⟩ := eyeNum_back h0
    obtain ⟨h4, h5⟩ := eyeRaw_back h1
    refine ⟨?_, rfl⟩
    rw [h] at h5
    simp only [encEs, List.append_nil, List.append_assoc]
    rw [← h2]; exact h5
  · have hl := hc.2.1
    subst hp
    rw [enc_mark, eyeNum_enc2 _ _ _ (by omega) (by omega)]
    exact ⟨rfl, c, rfl, rfl, rfl⟩
theorem DecI_next {p : List UInt8} {n : Int} {i : Nat} {l : List El} {last : Int} {st : Int × List UInt8} (h : DecI p n i l last st) (hi : (i : Int) < n) (c : List El) (hc : RightC c) (hp : p = encC c) :
    ∃ x r, c = l ++ x :: r ∧ n = c.length ∧ rdE last st = (x, (0, encEs x.id r)) := by
  obtain ⟨h1, h2, h3⟩ := h
  obtain ⟨q1, r, q2, q3, q4⟩ := h3 c hc hp
  obtain ⟨_, hl⟩ := h1 q1
  have hlen := congrArg List.length q2
  rw [List.length_append] at hlen
  cases r with
  | nil => simp at hlen; omega
  | cons x r =>
    refine ⟨x, r, q2, q4, ?_⟩
    have hx : c[i]? = some x := by rw [q2, List.getElem?_append_right (by omega)]; simp [hl]
    have ht : c.take i = l := by rw [q2, ← hl]; simp
    have ho := hc.1 x (List.mem_of_getElem? hx)
    have hr := rises_last hc.2.2 hx ho.2.2.1
    rw [ht, ← h2] at hr
    have hlo := (lastId_ok l (fun e he => hc.1 e (by rw [q2]; exact List.mem_append_left _ he))).1
    rw [← h2] at hlo
    obtain ⟨e, m⟩ := st
    simp only at q1 q3
    rw [q1, q3, encEs]
    exact rdE_enc last x _ ho hlo (by omega)
theorem DecI_step {p : List UInt8} {n : Int} {i : Nat} {l : List El} {last : Int} {st : Int × List UInt8} (h : DecI p n i l last st) (hi : (i : Int) < n) :
    DecI p n (i + 1) (l ++ [(rdE last st).1]) (rdE last st).1.id (rdE last st).2 := by
  refine ⟨fun h0 => ?_, (lastId_snoc _ _ _).symm, fun c hc hp => ?_⟩
  · obtain ⟨k1, k2⟩ := rdE_back last h0
    obtain ⟨k3, k4⟩ := h.1 k1
    refine ⟨?_, by simp [k4]⟩
    rw [encEs_snoc, ← h.2.1, k3, k2]
    simp only [List.append_assoc]
  · obtain ⟨x, r, k1, k2, k3⟩ := DecI_next h hi c hc hp
    rw [k3]
    exact ⟨rfl, r, by simpa using k1, rfl, k2⟩
theorem DecI_fail {p : List UInt8} {n : Int} {i : Nat} {l : List El} {last : Int} {st : Int × List UInt8} (h : DecI p n i l last st) (hi : (i : Int) < n) (hf : (rdE last st).2.1 ≠ 0) (c : List El) (hc : RightC c) : p ≠ encC c := by
  intro hp
  obtain ⟨x, r, k1, k2, k3⟩ := DecI_next h hi c hc hp
  rw [k3] at hf; exact hf rfl
theorem DecI_end {p : List UInt8} {n : Int} {i : Nat} {l : List El} {last : Int} {st : Int × List UInt8} (h : DecI p n i l last st) (hi : (i : Int) = n) :
    (eyeEnd st = 0 → encC l = p) ∧ ∀ c, RightC c → p = encC c → eyeEnd st = 0 ∧ l = c := by
  constructor
  · intro h0
    obtain ⟨k1, k2⟩ := eyeEnd_back h0
    obtain ⟨k3, k4⟩ := h.1 k1
    rw [k2, List.append_nil] at k3
    rw [k3, encC, k4, ← hi, Int.toNat_natCast]
  · intro c hc hp
    obtain ⟨k1, r, k2, k3, k4⟩ := h.2.2 c hc hp
    obtain ⟨_, k5⟩ := h.1 k1
    have hlen := congrArg List.length k2
    rw [List.length_append] at hlen
    have hr : r = [] := List.eq_nil_of_length_eq_zero (by omega)
    subst hr
    rw [encEs] at k3
    refine ⟨?_, by rw [k2, List.append_nil]⟩
    rw [eyeEnd, if_neg (by rw [k3]; simp), k1]
theorem DecR_none {p : List UInt8} (h : ∀ c, RightC c → p ≠ encC c) : DecR p 7 [] := ⟨.inl ⟨rfl, rfl⟩, fun c hc hp => absurd hp (h c hc)⟩
theorem DecR_mark {p : List UInt8} (h : (eyeRaw (0, p) 2).1 ≠ [67, 49]) : DecR p 7 [] := DecR_none fun c hc hp => h (by rw [hp, enc_mark])
end Go.Sl
