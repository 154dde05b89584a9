/- Disks as plain things: what stays so, act by act. -/
import Derived.Test.YtnplbpmdehcknaaDiskPure
set_option linter.unusedVariables false
namespace Go.Sl
namespace Dk

theorem new_ok {n : Nat} (h : n ≤ 4096) : (new n).ok := ⟨by simp [new], by simpa [new] using h, by simp [new], by simp [new], by simp [new], by simp [new]⟩
theorem act_acts (D : Dk) : D.act.acts ≤ D.acts + 1 := by
  unfold act; split
  · omega
  · split <;> simp
theorem write'_ok {D : Dk} (h : D.ok) (hb : D.acts < 1000000000) (i : Int) (p : List UInt8) : (D.write' i p).ok ∧ (D.write' i p).acts ≤ D.acts + 1 := by
  unfold write'
  split
  · exact ⟨h, by omega⟩
  · rename_i hc
    unfold write
    split
    · exact ⟨h, by omega⟩
    · rename_i ho
      obtain ⟨⟨h1, h2, h3, h4, h5, h6⟩, hs, hw⟩ := act_ok h hb
      have ha : D.act.acts = D.acts + 1 := by
        unfold act; rw [if_neg ho]; split <;> rfl
      refine ⟨⟨?_, h2, h3, h4, ?_, h6⟩, act_acts D⟩
      · intro q hq
        show q.1 < D.act.safe.length
        simp only [List.mem_append, List.mem_singleton] at hq
        rcases hq with hq | rfl
        · rw [hs]; exact h.1 q hq
        · rw [hs]; show i.toNat < _; omega
      · show ((D.wet ++ [(i.toNat, B64.of p)]).length : Int) ≤ D.act.acts
        have := h.2.2.2.2.1
        rw [List.length_append, ha]; simp; omega
theorem keep_ok {D : Dk} (h : D.ok) (f : Nat → Bool) : (D.keep f).ok := by
  obtain ⟨h1, h2, h3, h4, h5, h6⟩ := h
  exact ⟨by simp [keep], by simp [keep, keepL_len, h2], h3, h4, by simp [keep]; omega, h6⟩
theorem flush_ok {D : Dk} (h : D.ok) (hb : D.acts < 1000000000) : D.flush.ok ∧ D.flush.acts ≤ D.acts + 1 := by
  have := act_acts D
  unfold flush; split
  · exact ⟨keep_ok (act_ok h hb).1 _, this⟩
  · exact ⟨(act_ok h hb).1, this⟩
theorem crash_ok {D : Dk} (h : D.ok) (m : List UInt8) : (D.crash m).ok ∧ (D.crash m).acts ≤ D.acts := by
  obtain ⟨h1, h2, h3, h4, h5, h6⟩ := keep_ok h (bit m)
  exact ⟨⟨h1, h2, by simp [crash], by simp [crash], h5, h6⟩, Int.le_refl _⟩
theorem arm_ok {D : Dk} (h : D.ok) {n : Int} (hn : n ≤ 9223372036854775807) : (D.arm n).ok ∧ (D.arm n).acts ≤ D.acts := by
  obtain ⟨h1, h2, h3, h4, h5, h6⟩ := h
  exact ⟨⟨h1, h2, by simp only [arm]; omega, by simp only [arm]; omega, h5, h6⟩, Int.le_refl _⟩

/-- so few acts were there that it may be acted on -/
class OkN (D : Dk) (N : outParam Nat) : Prop where
  k : N ≤ 1000000 → D.ok ∧ D.acts ≤ N
theorem OkN.ok' {D : Dk} {N : Nat} [h : OkN D N] (hN : N ≤ 1000000) : D.ok := (h.k hN).1
theorem OkN.lt {D : Dk} {N : Nat} [h : OkN D N] (hN : N ≤ 1000000) : D.acts < 1000000000 := by have := (h.k hN).2; omega
instance : OkN (new 0) 0 := ⟨fun _ => ⟨new_ok (by decide), Int.le_refl _⟩⟩
instance : OkN (new 1) 0 := ⟨fun _ => ⟨new_ok (by decide), Int.le_refl _⟩⟩
instance : OkN (new 2) 0 := ⟨fun _ => ⟨new_ok (by decide), Int.le_refl _⟩⟩
instance : OkN (new 3) 0 := ⟨fun _ => ⟨new_ok (by decide), Int.le_refl _⟩⟩
instance : OkN (new 60) 0 := ⟨fun _ => ⟨new_ok (by decide), Int.le_refl _⟩⟩
instance {D : Dk} {N : Nat} [h : OkN D N] (i : Int) (p : List UInt8) : OkN (D.write' i p) (N + 1) := ⟨fun hN => by
  have h1 := h.k (by omega)
  have := write'_ok h1.1 (by omega) i p
  exact ⟨this.1, by omega⟩⟩
instance {D : Dk} {N : Nat} [h : OkN D N] : OkN D.flush (N + 1) := ⟨fun hN => by
  have h1 := h.k (by omega)
  have := flush_ok h1.1 (by omega)
  exact ⟨this.1, by omega⟩⟩
instance {D : Dk} {N : Nat} [h : OkN D N] (m : List UInt8) : OkN (D.crash m) N := ⟨fun hN => by
  have h1 := h.k (by omega)
  have := crash_ok h1.1 m
  exact ⟨this.1, by omega⟩⟩

/-- a sector that is safe, and isn't written any more -/
def Has (D : Dk) (i : Nat) (b : B64) : Prop := D.safe[i]? = some b ∧ ∀ q ∈ D.wet, q.1 ≠ i
theorem keepL_has (f : Nat → Bool) (i : Nat) (b : B64) : ∀ (l : List (Nat × B64)) (k : Nat) (S : List B64), S[i]? = some b → (∀ q ∈ l, q.1 ≠ i) → (keepL f k l S)[i]? = some b
  | [], _, _, h, _ => h
  | q :: l, k, S, h, hq => by
    rw [keepL]
    refine keepL_has f i b l _ _ ?_ (fun q' h' => hq q' (by simp [h']))
    split
    · rw [List.getElem?_set_ne (hq q (by simp))]; exact h
    · exact h
theorem Has.act {D : Dk} {i : Nat} {b : B64} (h : D.Has i b) : D.act.Has i b := by
  unfold Dk.act; split
  · exact h
  · split <;> exact h
theorem Has.write {D : Dk} {i : Nat} {b : B64} (h : D.Has i b) (c : Int) (p : List UInt8) (hc : c ≠ i) : (D.write' c p).Has i b := by
  unfold write'; split
  · exact h
  · unfold Dk.write; split
    · exact h
    · refine ⟨h.act.1, fun q hq => ?_⟩
      simp only [List.mem_append, List.mem_singleton] at hq
      rcases hq with hq | rfl
      · exact h.2 q hq
      · show c.toNat ≠ i; omega
theorem Has.keep {D : Dk} {i : Nat} {b : B64} (h : D.Has i b) (f : Nat → Bool) : (D.keep f).Has i b := ⟨keepL_has f i b _ _ _ h.1 h.2, by simp [Dk.keep]⟩
theorem Has.flush {D : Dk} {i : Nat} {b : B64} (h : D.Has i b) : D.flush.Has i b := by
  unfold Dk.flush; split
  · exact h.act.keep _
  · exact h.act
theorem Has.crash {D : Dk} {i : Nat} {b : B64} (h : D.Has i b) (m : List UInt8) : (D.crash m).Has i b := h.keep _
theorem Has.arm {D : Dk} {i : Nat} {b : B64} (h : D.Has i b) (n : Int) : (D.arm n).Has i b := h
theorem look_none (i : Nat) : ∀ (l : List (Nat × B64)) (b : B64), (∀ q ∈ l, q.1 ≠ i) → look l i b = b
  | [], _, _ => rfl
  | q :: l, b, h => by rw [look, if_neg (h q (by simp)), look_none i l b (fun q' h' => h q' (by simp [h']))]
theorem Has.read {D : Dk} {i : Nat} {b : B64} (h : D.Has i b) : D.read i = b := by
  rw [Dk.read, look_none _ _ _ h.2, List.getD_eq_getElem?_getD, h.1]; rfl
theorem Has.lt {D : Dk} {i : Nat} {b : B64} (h : D.Has i b) : i < D.safe.length := (List.getElem?_eq_some_iff.1 h.1).1
/-- an act that goes well -/
theorem write_goes {D : Dk} {i : Int} {p : List UInt8} (h0 : 0 ≤ i) (h1 : i < D.safe.length) (hp : p.length ≤ 64) (ho : D.off = false) (hl : D.left ≠ 0) :
    D.eWrite i p = 0 ∧ (D.write' i p).safe = D.safe ∧ (D.write' i p).off = false ∧ (D.write' i p).left = max (D.left - 1) (-1) ∧ (D.write' i p).acts = D.acts + 1 ∧ (D.write' i p).wet = D.wet ++ [(i.toNat, B64.of p)] := by
  have hc : ¬ (i < 0 ∨ (D.safe.length : Int) ≤ i ∨ 64 < p.length) := by omega
  simp [eWrite, write', hc, goes, ho, hl, write, act]
/-- one that doesn't -/
theorem write_stops {D : Dk} {i : Int} {p : List UInt8} (h0 : 0 ≤ i) (h1 : i < D.safe.length) (hp : p.length ≤ 64) (ho : D.off = true ∨ D.left = 0) :
    D.eWrite i p = 9 ∧ (D.write' i p).safe = D.safe ∧ (D.write' i p).off = true := by
  have hc : ¬ (i < 0 ∨ (D.safe.length : Int) ≤ i ∨ 64 < p.length) := by omega
  rcases ho with ho | ho
  · simp [eWrite, write', hc, goes, ho, write]
  · cases hq : D.off <;> simp [eWrite, write', hc, goes, ho, hq, write, act]
theorem keep_len (D : Dk) (f : Nat → Bool) : (D.keep f).safe.length = D.safe.length := by simp [keep, keepL_len]
theorem safe_act (D : Dk) : D.act.safe = D.safe := by
  unfold act
  split
  · rfl
  · split <;> rfl
theorem flush_len (D : Dk) : D.flush.safe.length = D.safe.length := by
  unfold flush; split
  · rw [keep_len, safe_act]
  · rw [safe_act]
theorem flush_stops {D : Dk} (ho : D.off = true ∨ D.left = 0) : D.goes = false ∧ D.flush.off = true := by
  rcases ho with ho | ho
  · simp [flush, goes, ho, act]
  · cases hq : D.off <;> simp [flush, goes, ho, hq, act]

/-- so many writes, each into its own sector -/
def maskD (k : Nat) : Dk := ⟨List.replicate 60 B64.zero, (List.range k).map (fun j => (j, B64.of [UInt8.ofInt ((j : Int) + 1)])), -1, false, k⟩
theorem maskD_step {k : Nat} (h : k < 60) : (maskD k).eWrite k [UInt8.ofInt ((k : Int) + 1)] = 0 ∧ (maskD k).write' k [UInt8.ofInt ((k : Int) + 1)] = maskD (k + 1) := by
  have hc : ¬ ((k : Int) < 0 ∨ ((maskD k).safe.length : Int) ≤ k ∨ 64 < [UInt8.ofInt ((k : Int) + 1)].length) := by simp [maskD]; omega
  refine ⟨by simp only [eWrite]; rw [if_neg hc]; simp [goes, maskD], ?_⟩
  simp only [write']
  rw [if_neg hc]
  have h2 : ((k : Int)).toNat = k := rfl
  simp only [write, maskD, act, List.range_succ, List.map_append, List.map_cons, List.map_nil, h2]
  rfl
theorem keepL_row (f : Nat → Bool) (g : Nat → B64) : ∀ (m i : Nat) (S : List B64), i + m ≤ S.length → ∀ j, (keepL f i ((List.range' i m).map fun q => (q, g q)) S)[j]? = if i ≤ j ∧ j < i + m ∧ f j = true then some (g j) else S[j]?
  | 0, i, S, _, j => by rw [List.range'_zero, List.map_nil, keepL, if_neg (by omega)]
  | m + 1, i, S, h, j => by
    rw [List.range'_succ, List.map_cons, keepL, keepL_row f g m (i + 1) _ (by by_cases q : f i = true <;> simp [q] <;> omega) j]
    by_cases hj : j = i
    · subst hj
      rw [if_neg (by omega)]
      by_cases hf : f j = true
      · rw [if_pos hf, if_pos ⟨Nat.le_refl _, by omega, hf⟩]
        rw [List.getElem?_set_self (by omega)]
      · rw [if_neg hf, if_neg (by simp [hf])]
    · have e : (if f i = true then S.set i (g i) else S)[j]? = S[j]? := by
        split
        · rw [List.getElem?_set_ne (Ne.symm hj)]
        · rfl
      rw [e]
      by_cases hc : i + 1 ≤ j ∧ j < i + 1 + m ∧ f j = true
      · rw [if_pos hc, if_pos ⟨by omega, by omega, hc.2.2⟩]
      · rw [if_neg hc, if_neg (fun q => hc ⟨by omega, by omega, q.2.2⟩)]
theorem maskD_read {k j : Nat} (hk : k ≤ 60) (hj : j < k) (m : List UInt8) : ((maskD k).crash m).eRead j = 0 ∧ ((maskD k).crash m).vRead j = (if bit m j then B64.of [UInt8.ofInt ((j : Int) + 1)] else B64.zero).val := by
  have hl : ((maskD k).crash m).safe.length = 60 := by
    show (keepL _ _ _ _).length = 60
    rw [keepL_len]; simp [maskD]
  have h1 := keepL_row (bit m) (fun q => B64.of [UInt8.ofInt ((q : Int) + 1)]) k 0 (List.replicate 60 B64.zero) (by simp; omega) j
  have hc : ¬ ((j : Int) < 0 ∨ (((maskD k).crash m).safe.length : Int) ≤ j) := by rw [hl]; omega
  refine ⟨by rw [eRead, if_neg hc]; rfl, ?_⟩
  rw [vRead, if_neg (by rintro (q | q); exact hc q; cases q)]
  congr 1
  show ((keepL (bit m) 0 ((List.range k).map fun q => (q, B64.of [UInt8.ofInt ((q : Int) + 1)])) (List.replicate 60 B64.zero)).getD (j : Int).toNat B64.zero) = _
  rw [List.range_eq_range', List.getD_eq_getElem?_getD, show (j : Int).toNat = j from rfl, h1]
  by_cases hb : bit m j = true
  · rw [if_pos ⟨by omega, by omega, hb⟩, if_pos hb]; rfl
  · rw [if_neg (by simp [hb]), if_neg hb, List.getElem?_replicate, if_pos (by omega)]; rfl
theorem maskD_ok {k : Nat} (h : k ≤ 60) : (maskD k).ok := by
  refine ⟨?_, by simp [maskD], by simp [maskD], by simp [maskD], by simp [maskD], by simp [maskD]; omega⟩
  intro q hq
  simp only [maskD, List.mem_map, List.mem_range] at hq
  obtain ⟨j, hj, rfl⟩ := hq
  simp [maskD]; omega
end Dk
theorem u8_and1 (x : UInt8) : (x &&& 1 = 1) ↔ (x % 2 = 1) := by
  have h1 : (x &&& 1).toNat = x.toNat % 2 := by rw [UInt8.toNat_and]; exact Nat.and_one_is_mod _
  have h2 : (x % 2).toNat = x.toNat % 2 := by rw [UInt8.toNat_mod]; rfl
  rw [← UInt8.toNat_inj, ← UInt8.toNat_inj, h1, h2]
theorem B64.of_take {p : List UInt8} (h : p.length ≤ 64) : (B64.of p).val.take p.length = p := by rw [B64.of_val h]; simp
end Go.Sl
