/- Commits' bytes, and back: plain facts. -/
import Derived.Test.YtfhlbfalgdipiaaDoorCommitPure
import Derived.Test.YtfhlbfalgdipiaaDoorEyeBack
set_option linter.unusedVariables false
namespace Go.Sl

theorem eyeRaw_enc (x r : List UInt8) (n : Int) (h : (x.length : Int) = n) : eyeRaw (0, x ++ r) n = (x, (0, r)) := by
  unfold eyeRaw
  by_cases h0 : n ≤ 0
  · have : x = [] := List.eq_nil_of_length_eq_zero (by omega)
    subst this
    rw [if_pos (.inr h0)]; rfl
  · rw [if_neg (by rintro (q | q); exact q rfl; exact h0 q), if_neg (by simp; omega)]
    have : n.toNat = x.length := by omega
    rw [this]; simp
theorem keyN_enc (k : K32) (r : List UInt8) : keyN (0, k.val ++ r) = (k, (0, r)) := by
  rw [keyN, eyeRaw_enc k.val r 32 (by rw [k.len]; rfl)]
  exact Prod.ext (BA.ext' (BA.of_val k.len)) rfl
theorem keysN_enc : ∀ (l : List K32) (r : List UInt8), keysN l.length (0, keys l ++ r) = (l, (0, r))
  | [], r => rfl
  | k :: l, r => by
    have e : keys (k :: l) ++ r = k.val ++ (keys l ++ r) := by simp [keys]
    rw [List.length_cons, keysN, e, keyN_enc, keysN_enc l r]
theorem dec_enc (c : Cm) (h : rightC c = true) : okD (encC c) = true ∧ decC (encC c) = c := by
  obtain ⟨h1, h2⟩ : c.parents.length ≤ 2 ∧ c.note.length ≤ 30 := by
    have := h
    simp only [rightC, Bool.and_eq_true, decide_eq_true_eq] at this; exact this.1
  have e0 : encC c = [75, 49] ++ (c.chart.val ++ (numN c.parents.length ++ (keys c.parents ++ ((numN c.note.length ++ c.note) ++ [])))) := by simp [encC]
  have e1 : eyeRaw (0, encC c) 2 = ([75, 49], (0, c.chart.val ++ (numN c.parents.length ++ (keys c.parents ++ ((numN c.note.length ++ c.note) ++ []))))) := by
    rw [e0]; exact eyeRaw_enc _ _ _ rfl
  have e2 : decB (eyeRaw (0, encC c) 2).2 = (c, (0, [])) := by
    rw [e1]
    simp only [decB]
    rw [keyN_enc, eyeNum_numN _ _ _ (by omega), if_neg (by omega)]
    simp only [Int.toNat_natCast]
    rw [keysN_enc, eyeText_enc _ _ _ (by omega) (by omega), if_neg (by omega)]
  have e3 : okD (encC c) = true := by
    rw [okD, e2, e1]; simp [h, eyeEnd]
  exact ⟨e3, by rw [decC, e3, if_pos rfl, e2]⟩

theorem keyN_back {st : Int × List UInt8} (h : (keyN st).2.1 = 0) : st.1 = 0 ∧ st.2 = (keyN st).1.val ++ (keyN st).2.2 := by
  have h' : (eyeRaw st 32).2.1 = 0 := h
  obtain ⟨h1, h2⟩ := eyeRaw_back h'
  have h3 := eyeRaw_length h' (by omega)
  refine ⟨h1, ?_⟩
  show st.2 = (BA.of 32 (eyeRaw st 32).1).val ++ (eyeRaw st 32).2.2
  rw [BA.of_val (by omega)]
  exact h2
theorem keysN_back : ∀ (n : Nat) {st : Int × List UInt8}, (keysN n st).2.1 = 0 → st.1 = 0 ∧ st.2 = keys (keysN n st).1 ++ (keysN n st).2.2
  | 0, st, h => ⟨h, by simp [keysN, keys]⟩
  | n + 1, st, h => by
    obtain ⟨h1, h2⟩ := keysN_back n (st := (keyN st).2) h
    obtain ⟨h3, h4⟩ := keyN_back h1
    refine ⟨h3, ?_⟩
    rw [h4, h2, keysN]
    simp [keys]
theorem enc_dec {p : List UInt8} (h : okD p = true) : encC (decC p) = p ∧ rightC (decC p) = true := by
  have hd : decC p = (decB (eyeRaw (0, p) 2).2).1 := by rw [decC, if_pos h]
  simp only [okD, Bool.and_eq_true, decide_eq_true_eq] at h
  obtain ⟨hm, he, hr⟩ := h
  rw [hd]
  refine ⟨?_, hr⟩
  obtain ⟨h1, h2⟩ := eyeEnd_back he
  generalize hst : (eyeRaw (0, p) 2).2 = st1 at *
  obtain ⟨h3, h4⟩ := eyeText_back (st := (keysN (eyeNum (keyN st1).2 2).1.toNat (eyeNum (keyN st1).2 2).2).2) (most := 30) h1
  obtain ⟨h5, h6⟩ := keysN_back _ h3
  obtain ⟨h7, h8, h9⟩ := eyeNum_back h5
  obtain ⟨h10, h11⟩ := keyN_back h7
  have h12 := eyeRaw_back (st := (0, p)) (n := 2) (by rw [hst]; exact h10)
  have hl := (keysN_len (eyeNum (keyN st1).2 2).1.toNat (eyeNum (keyN st1).2 2).2).2
  have hb : (decB st1).2.2 = (eyeText (keysN (eyeNum (keyN st1).2 2).1.toNat (eyeNum (keyN st1).2 2).2).2 30).2.2 := rfl
  have h13 := h12.2
  rw [hm, hst] at h13
  show [75, 49] ++ (keyN st1).1.val ++ numN (keysN (eyeNum (keyN st1).2 2).1.toNat (eyeNum (keyN st1).2 2).2).1.length ++ keys (keysN (eyeNum (keyN st1).2 2).1.toNat (eyeNum (keyN st1).2 2).2).1 ++ (numN (eyeText (keysN (eyeNum (keyN st1).2 2).1.toNat (eyeNum (keyN st1).2 2).2).2 30).1.length ++ (eyeText (keysN (eyeNum (keyN st1).2 2).1.toNat (eyeNum (keyN st1).2 2).2).2 30).1) = p
  rw [hl]
  conv => rhs; rw [show p = (0, p).2 from rfl, h13, h11, h8, h6, h4, ← hb, h2]
  simp
theorem encC_inj {c d : Cm} (hc : rightC c = true) (hd : rightC d = true) (h : encC c = encC d) : c = d := by
  have h1 := (dec_enc c hc).2
  rw [h, (dec_enc d hd).2] at h1
  exact h1.symm
theorem encC_len (c : Cm) (h : rightC c = true) : (encC c).length ≤ 1000 := by
  obtain ⟨h1, h2⟩ : c.parents.length ≤ 2 ∧ c.note.length ≤ 30 := by
    have := h
    simp only [rightC, Bool.and_eq_true, decide_eq_true_eq] at this; exact this.1
  have h3 := numN_len9 c.parents.length (by omega)
  have h4 := numN_len9 c.note.length (by omega)
  simp only [encC, List.length_append, List.length_cons, List.length_nil, BA.len', keys_len]
  omega
end Go.Sl
