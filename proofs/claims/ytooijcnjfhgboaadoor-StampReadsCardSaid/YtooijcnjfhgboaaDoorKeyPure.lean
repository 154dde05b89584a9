/- Bytes in their order, and texts of keys: plain facts. -/
import Derived.Test.YtooijcnjfhgboaaDoorShaPure
set_option linter.unusedVariables false
namespace Go.Sl

theorem bytesLess_self : ∀ l : List UInt8, Op.bytesLess l l = false
  | [] => rfl
  | x :: l => by simp [Op.bytesLess, bytesLess_self l]
theorem bytesLess_cons (x y : UInt8) (l m : List UInt8) : Op.bytesLess (x :: l) (y :: m) = if x = y then Op.bytesLess l m else decide (x < y) := by
  by_cases h : x = y
  · subst h; simp [Op.bytesLess]
  · simp [Op.bytesLess, h]
theorem bytesLess_step {l m : List UInt8} {i : Nat} (h1 : i < l.length) (h2 : i < m.length) :
    Op.bytesLess (l.drop i) (m.drop i) = if l.getD i 0 = m.getD i 0 then Op.bytesLess (l.drop (i + 1)) (m.drop (i + 1)) else decide (l.getD i 0 < m.getD i 0) := by
  rw [List.drop_eq_getElem_cons h1, List.drop_eq_getElem_cons h2, bytesLess_cons]
  simp [List.getD_eq_getElem?_getD, h1, h2]
theorem u8_lt_of_ne {x y : UInt8} (h : x ≠ y) : (y < x) ↔ ¬ (x < y) := by
  rw [UInt8.lt_iff_toNat_lt, UInt8.lt_iff_toNat_lt]
  have : x.toNat ≠ y.toNat := fun e => h (UInt8.toNat_inj.1 e)
  omega
theorem bytesLess_ne : ∀ (l m : List UInt8), l.length = m.length → l ≠ m → Op.bytesLess m l = !Op.bytesLess l m
  | [], [], _, h => absurd rfl h
  | [], _ :: _, h, _ => by simp at h
  | _ :: _, [], h, _ => by simp at h
  | x :: l, y :: m, hl, h => by
    rw [bytesLess_cons, bytesLess_cons]
    by_cases e : x = y
    · subst e
      rw [if_pos rfl, if_pos rfl]
      exact bytesLess_ne l m (by simpa using hl) (fun q => h (by rw [q]))
    · rw [if_neg e, if_neg (Ne.symm e)]
      have := u8_lt_of_ne e
      by_cases q : x < y <;> simp_all
theorem bytesLess_trans : ∀ (l m k : List UInt8), Op.bytesLess l m = true → Op.bytesLess m k = true → Op.bytesLess l k = true
  | l, [], k, h, _ => by cases l <;> simp [Op.bytesLess] at h
  | l, _ :: _, [], _, h => by simp [Op.bytesLess] at h
  | [], _ :: _, _ :: _, _, _ => rfl
  | x :: l, y :: m, z :: k, h1, h2 => by
    rw [bytesLess_cons] at h1 h2 ⊢
    by_cases e1 : x = y
    · subst e1
      rw [if_pos rfl] at h1
      by_cases e2 : x = z
      · subst e2
        rw [if_pos rfl] at h2 ⊢
        exact bytesLess_trans l m k h1 h2
      · rw [if_neg e2] at h2 ⊢; exact h2
    · rw [if_neg e1] at h1
      have h1' := of_decide_eq_true h1
      by_cases e2 : y = z
      · subst e2; rw [if_neg e1]; exact h1
      · rw [if_neg e2] at h2
        have h2' := of_decide_eq_true h2
        rw [UInt8.lt_iff_toNat_lt] at h1' h2'
        have hxz : x ≠ z := fun e => by subst e; omega
        rw [if_neg hxz]
        apply decide_eq_true
        rw [UInt8.lt_iff_toNat_lt]; omega
theorem hexD_lt : ∀ n < 16, ∀ m < 16, (hexD.getD n 0 < hexD.getD m 0 ↔ n < m) := by decide
theorem hexD_inj : ∀ n < 16, ∀ m < 16, (hexD.getD n 0 = hexD.getD m 0 ↔ n = m) := by decide
theorem hexOf_cons (x : UInt8) (l : List UInt8) : hexOf (x :: l) = hexD.getD (x.toNat / 16) 0 :: hexD.getD (x.toNat % 16) 0 :: hexOf l := rfl
theorem bytesLess_hex : ∀ (l m : List UInt8), l.length = m.length → Op.bytesLess (hexOf l) (hexOf m) = Op.bytesLess l m
  | [], [], _ => rfl
  | [], _ :: _, h => by simp at h
  | _ :: _, [], h => by simp at h
  | x :: l, y :: m, hl => by
    have hx := x.toNat_lt
    have hy := y.toNat_lt
    rw [hexOf_cons, hexOf_cons, bytesLess_cons, bytesLess_cons, bytesLess_cons, bytesLess_hex l m (by simpa using hl)]
    simp only [hexD_inj (x.toNat / 16) (by omega) (y.toNat / 16) (by omega), hexD_inj (x.toNat % 16) (by omega) (y.toNat % 16) (by omega), hexD_lt (x.toNat / 16) (by omega) (y.toNat / 16) (by omega), hexD_lt (x.toNat % 16) (by omega) (y.toNat % 16) (by omega)]
    have e : x = y ↔ x.toNat / 16 = y.toNat / 16 ∧ x.toNat % 16 = y.toNat % 16 := by
      constructor
      · rintro rfl; exact ⟨rfl, rfl⟩
      · rintro ⟨h1, h2⟩; exact UInt8.toNat_inj.1 (by omega)
    by_cases h1 : x.toNat / 16 = y.toNat / 16
    · by_cases h2 : x.toNat % 16 = y.toNat % 16
      · rw [if_pos h1, if_pos h2, if_pos (e.2 ⟨h1, h2⟩)]
      · rw [if_pos h1, if_neg h2, if_neg (fun q => h2 (e.1 q).2)]
        rw [decide_eq_decide, UInt8.lt_iff_toNat_lt]; omega
    · rw [if_neg h1, if_neg (fun q => h1 (e.1 q).1)]
      rw [decide_eq_decide, UInt8.lt_iff_toNat_lt]; omega
/-- a text of digits is read as what it tells -/
theorem nib_hexD : ∀ n < 16, nib (hexD.getD n 0) = UInt8.ofNat n := by decide
theorem unhex_hexOf : ∀ l : List UInt8, unhex (hexOf l) = l
  | [] => rfl
  | x :: l => by
    have hx := x.toNat_lt
    rw [hexOf_cons, unhex, unhex_hexOf l, nib_hexD _ (by omega), nib_hexD _ (by omega)]
    congr 1
    apply UInt8.toNat_inj.1
    rw [UInt8.toNat_or, UInt8.toNat_ofNat', UInt8.toNat_ofNat', UInt8.toNat_ofNat', Nat.mod_eq_of_lt (by omega : x.toNat / 16 < 2 ^ 8), Nat.mod_eq_of_lt (by omega : x.toNat % 16 < 2 ^ 8), Nat.mod_eq_of_lt (by omega),
      show x.toNat / 16 * 16 = 2 ^ 4 * (x.toNat / 16) by omega, ← Nat.two_pow_add_eq_or_of_lt (by omega)]
    omega
theorem hexD_nib_ok : ∀ n < 16, decide (nib (hexD.getD n 0) ≤ 15) = true := by decide
theorem hexOk_hexOf (l : List UInt8) (h : l.length = 32) : hexOk (hexOf l) = true := by
  rw [hexOk, hexOf_len, h]
  simp only [Nat.reduceMul, BEq.rfl, Bool.true_and, List.all_eq_true]
  intro c hc
  simp only [hexOf, List.mem_flatMap] at hc
  obtain ⟨b, _, hb⟩ := hc
  have hx := b.toNat_lt
  simp only [List.mem_cons, List.not_mem_nil, or_false] at hb
  rcases hb with rfl | rfl
  · exact hexD_nib_ok _ (by omega)
  · exact hexD_nib_ok _ (by omega)
theorem hexOf_get (x : UInt8) : ∀ (l : List UInt8) (i : Nat), l[i]? = some x → (hexOf l).getD (2 * i) 0 = hexD.getD (x.toNat / 16) 0 ∧ (hexOf l).getD (2 * i + 1) 0 = hexD.getD (x.toNat % 16) 0
  | [], i, h => by simp at h
  | y :: l, 0, h => by simp at h; subst h; exact ⟨rfl, rfl⟩
  | y :: l, i + 1, h => by
    have ⟨h1, h2⟩ := hexOf_get x l i (by simpa using h)
    rw [hexOf_cons, show 2 * (i + 1) = 2 * i + 1 + 1 by omega]
    simpa using ⟨h1, h2⟩
/-- and back: of texts that are right -/
theorem hexD_nib : ∀ c : UInt8, nib c ≤ 15 → hexD.getD (nib c).toNat 0 = c := by
  have h : ∀ c : Fin 256, nib (UInt8.ofNat c.val) ≤ 15 → hexD.getD (nib (UInt8.ofNat c.val)).toNat 0 = UInt8.ofNat c.val := by decide +kernel
  intro c
  have := h ⟨c.toNat, c.toNat_lt⟩
  simpa using this
theorem hexOf_unhex : ∀ (n : Nat) (s : List UInt8), s.length = 2 * n → (∀ c ∈ s, nib c ≤ 15) → hexOf (unhex s) = s
  | 0, s, h, _ => by
    have : s = [] := List.eq_nil_of_length_eq_zero (by omega)
    subst this; rfl
  | n + 1, [], h, _ => by simp at h
  | n + 1, [a], h, _ => by simp at h; omega
  | n + 1, a :: b :: l, h, hc => by
    have ha := hc a (by simp)
    have hb := hc b (by simp)
    have ha2 := ha
    have hb2 := hb
    rw [UInt8.le_iff_toNat_le] at ha2 hb2
    have e15 : (15 : UInt8).toNat = 15 := rfl
    rw [e15] at ha2 hb2
    have e : (UInt8.ofNat ((nib a).toNat * 16) ||| nib b).toNat = (nib a).toNat * 16 + (nib b).toNat := by
      rw [UInt8.toNat_or, UInt8.toNat_ofNat', Nat.mod_eq_of_lt (by omega), show (nib a).toNat * 16 = 2 ^ 4 * (nib a).toNat by omega, ← Nat.two_pow_add_eq_or_of_lt (by omega)]
    rw [unhex, hexOf_cons, e, hexOf_unhex n l (by simp only [List.length_cons] at h; omega) (fun c hc' => hc c (by simp [hc'])), show ((nib a).toNat * 16 + (nib b).toNat) / 16 = (nib a).toNat by omega, show ((nib a).toNat * 16 + (nib b).toNat) % 16 = (nib b).toNat by omega, hexD_nib a ha, hexD_nib b hb]
theorem nib_ok : ∀ c : UInt8, decide (nib c ≤ 15) = (decide (48 ≤ c) && decide (c ≤ 57) || decide (97 ≤ c) && decide (c ≤ 102)) := by
  have h : ∀ c : Fin 256, decide (nib (UInt8.ofNat c.val) ≤ 15) = (decide (48 ≤ UInt8.ofNat c.val) && decide (UInt8.ofNat c.val ≤ 57) || decide (97 ≤ UInt8.ofNat c.val) && decide (UInt8.ofNat c.val ≤ 102)) := by decide +kernel
  intro c
  have := h ⟨c.toNat, c.toNat_lt⟩
  simpa using this
end Go.Sl
