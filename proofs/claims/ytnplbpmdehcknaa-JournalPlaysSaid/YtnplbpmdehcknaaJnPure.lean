/- The journal as plain things: what it tells to be written, a row of writes, what may be kept of them. Plain Lean. -/
import Derived.Test.YtnplbpmdehcknaaDkPure
import Derived.Test.YtnplbpmdehcknaaNumPure
set_option linter.unusedVariables false
namespace Go.Sl
theorem flush_facts {D : Dk} (h1 : D.off = false) (h2 : -1 ≤ D.left) : D.goes = decide (D.left ≠ 0) ∧ D.flush.off = decide (D.left = 0) ∧ D.flush.left = (if 0 < D.left then D.left - 1 else D.left) ∧ D.flush.acts = D.acts + 1 ∧ (D.left = 0 → D.flush.safe = D.safe ∧ D.flush.wet = D.wet) ∧ (D.left ≠ 0 → D.flush.safe = Dk.keepL (fun _ => true) 0 D.wet D.safe ∧ D.flush.wet = []) := by
  have hg : D.goes = decide (D.left ≠ 0) := by rw [Dk.goes, h1]; rfl
  by_cases q : D.left = 0
  · have : D.flush = { D with acts := D.acts + 1, off := true } := by rw [Dk.flush, hg, if_neg (by simp [q]), Dk.act, if_neg (by simp [h1]), if_pos q]
    rw [this]
    exact ⟨hg, by simp [q], by simp [q], rfl, fun _ => ⟨rfl, rfl⟩, fun e => absurd q e⟩
  · have : D.flush = { D with acts := D.acts + 1, left := max (D.left - 1) (-1) }.keep (fun _ => true) := by rw [Dk.flush, hg, if_pos (by simp [q]), Dk.act, if_neg (by simp [h1]), if_neg q]
    rw [this]
    refine ⟨hg, by simp [Dk.keep, h1, q], ?_, rfl, fun e => absurd e q, fun _ => ⟨rfl, rfl⟩⟩
    show max (D.left - 1) (-1) = _
    split <;> omega
theorem write_facts {D : Dk} {i : Nat} {p : List UInt8} (h1 : D.off = false) (h2 : -1 ≤ D.left) : D.goes = decide (D.left ≠ 0) ∧ (D.write i p).off = decide (D.left = 0) ∧ (D.write i p).left = (if 0 < D.left then D.left - 1 else D.left) ∧ (D.write i p).acts = D.acts + 1 ∧ (D.write i p).safe = D.safe ∧ (D.write i p).wet = D.wet ++ [(i, B64.of p)] := by
  have hg : D.goes = decide (D.left ≠ 0) := by rw [Dk.goes, h1]; rfl
  have hw : D.write i p = { D.act with wet := D.wet ++ [(i, B64.of p)] } := by rw [Dk.write, if_neg (by simp [h1])]
  by_cases q : D.left = 0
  · have : D.act = { D with acts := D.acts + 1, off := true } := by rw [Dk.act, if_neg (by simp [h1]), if_pos q]
    rw [hw, this]
    exact ⟨hg, by simp [q], by simp [q], rfl, rfl, rfl⟩
  · have : D.act = { D with acts := D.acts + 1, left := max (D.left - 1) (-1) } := by rw [Dk.act, if_neg (by simp [h1]), if_neg q]
    rw [hw, this]
    refine ⟨hg, by simp [h1, q], ?_, rfl, rfl, rfl⟩
    show max (D.left - 1) (-1) = _
    split <;> omega
theorem B64.of_of (x : B64) : B64.of x.val = x := B64.ext' (by rw [B64.of_val (by rw [x.len]; omega), x.len]; simp)

/-- a page: its place, its bytes -/
structure Pg where
  at_ : Int
  p : List UInt8
namespace Jn
def num (b : List UInt8) : Nat := leN (b.take 4)
theorem num_lt (b : List UInt8) : num b < 4294967296 := by
  have h1 := leN_lt (b.take 4)
  have h2 : (b.take 4).length ≤ 4 := by simp; omega
  have h3 := Nat.pow_le_pow_right (n := 256) (by omega) h2
  have e : (256 : Nat) ^ 4 = 4294967296 := by decide
  unfold num; omega
/-- the next number, of the first sectors -/
def nextN (R : Nat → B64) : Nat → Nat
  | 0 => 0
  | k + 1 => max (nextN R k) (num (R k).val + 1)
theorem nextN_lt (R : Nat → B64) : ∀ k i, i < k → num (R i).val < nextN R k
  | 0, i, h => absurd h (Nat.not_lt_zero i)
  | k + 1, i, h => by
    rw [nextN]
    rcases Nat.lt_or_ge i k with e | e
    · have := nextN_lt R k i e; omega
    · obtain rfl : i = k := by omega
      omega
theorem nextN_le (R : Nat → B64) (B : Nat) : ∀ k, (∀ i, i < k → num (R i).val < B) → nextN R k ≤ B
  | 0, _ => Nat.zero_le _
  | k + 1, h => by
    rw [nextN]
    have h1 := nextN_le R B k (fun i hi => h i (by omega))
    have h2 := h k (by omega)
    omega
theorem nextN_bound (R : Nat → B64) (k : Nat) : nextN R k ≤ 4294967296 := nextN_le R _ k fun i _ => num_lt _
def pageN (R : Nat → B64) (i : Nat) : Pg := ⟨(num ((R (1 + 2 * i)).val.drop 4) : Int), ((R (1 + 2 * i)).val.drop 8).take 32 ++ ((R (2 + 2 * i)).val.drop 8).take 32⟩
theorem pageN_len (R : Nat → B64) (i : Nat) : (pageN R i).p.length = 64 := by simp [pageN]
def sameN (R : Nat → B64) (c i : Nat) : Prop := num (R (1 + 2 * i)).val = c ∧ num (R (2 + 2 * i)).val = c
instance (R : Nat → B64) (c i : Nat) : Decidable (sameN R c i) := by unfold sameN; infer_instance
/-- what a journal tells to be written -/
def readN (R : Nat → B64) : List Pg :=
  if 24 < num ((R 0).val.drop 4) ∨ num (R 0).val = 0 then [] else if ∀ i, i < num ((R 0).val.drop 4) → sameN R (num (R 0).val) i then (List.range (num ((R 0).val.drop 4))).map (pageN R) else []
theorem readN_len (R : Nat → B64) : (readN R).length ≤ 24 := by
  unfold readN
  split
  · simp
  · split <;> simp <;> omega
theorem readN_p {R : Nat → B64} {x : Pg} (h : x ∈ readN R) : x.p.length = 64 ∧ 0 ≤ x.at_ ∧ x.at_ < 4294967296 := by
  unfold readN at h
  split at h
  · simp at h
  · split at h
    · obtain ⟨i, _, rfl⟩ := List.mem_map.1 h
      refine ⟨pageN_len R i, ?_, ?_⟩
      · show (0 : Int) ≤ (num _ : Int); omega
      · show (num _ : Int) < _
        have := num_lt ((R (1 + 2 * i)).val.drop 4)
        omega
    · simp at h
theorem readN_congr {R R' : Nat → B64} (h : ∀ i, i < 49 → R i = R' i) : readN R = readN R' := by
  have h0 := h 0 (by omega)
  unfold readN
  rw [h0]
  split
  · rfl
  · rename_i hn
    have hn24 : num ((R' 0).val.drop 4) ≤ 24 := by omega
    have hs : ∀ i, i < num ((R' 0).val.drop 4) → R (1 + 2 * i) = R' (1 + 2 * i) ∧ R (2 + 2 * i) = R' (2 + 2 * i) := fun i hi => ⟨h _ (by omega), h _ (by omega)⟩
    have e1 : (∀ i, i < num ((R' 0).val.drop 4) → sameN R (num (R' 0).val) i) ↔ (∀ i, i < num ((R' 0).val.drop 4) → sameN R' (num (R' 0).val) i) :=
      ⟨fun q i hi => by have := q i hi; rwa [sameN, (hs i hi).1, (hs i hi).2] at this, fun q i hi => by rw [sameN, (hs i hi).1, (hs i hi).2]; exact q i hi⟩
    have e2 : (List.range (num ((R' 0).val.drop 4))).map (pageN R) = (List.range (num ((R' 0).val.drop 4))).map (pageN R') :=
      List.map_congr_left fun i hi => by rw [pageN, pageN, (hs i (List.mem_range.1 hi)).1, (hs i (List.mem_range.1 hi)).2]
    simp only [e1, e2]

/-- writes, one behind the other, then a flush; the first fault ends it -/
def runW (D : Dk) : List (Int × List UInt8) → Dk × Int
  | [] => (D.flush, if D.goes then 0 else 9)
  | q :: l => if D.eWrite q.1 q.2 = 0 then runW (D.write' q.1 q.2) l else (D.write' q.1 q.2, D.eWrite q.1 q.2)
def wr (q : Int × List UInt8) : Nat × B64 := (q.1.toNat, B64.of q.2)
def okW (N : Nat) (q : Int × List UInt8) : Prop := 0 ≤ q.1 ∧ q.1 < (N : Int) ∧ q.2.length ≤ 64
theorem runW_ok : ∀ (l : List (Int × List UInt8)) (D : Dk), D.ok → D.acts + l.length + 1 ≤ 1000000000 → (runW D l).1.ok ∧ (runW D l).1.acts ≤ D.acts + l.length + 1
  | [], D, h, hb => by
    rw [runW]
    have := Dk.flush_ok h (by simp at hb; omega)
    exact ⟨this.1, by have := this.2; simp; omega⟩
  | q :: l, D, h, hb => by
    rw [runW]
    have hw := Dk.write'_ok h (by simp at hb; omega) q.1 q.2
    split
    · have := runW_ok l _ hw.1 (by simp at hb; omega)
      exact ⟨this.1, by have := this.2; have := hw.2; simp; omega⟩
    · exact ⟨hw.1, by have := hw.2; simp; omega⟩
theorem write'_len (D : Dk) (i : Int) (p : List UInt8) : (D.write' i p).safe.length = D.safe.length := by
  unfold Dk.write' Dk.write
  split
  · rfl
  · split
    · rfl
    · show D.act.safe.length = _
      rw [Dk.safe_act]
theorem runW_len : ∀ (l : List (Int × List UInt8)) (D : Dk), (runW D l).1.safe.length = D.safe.length
  | [], D => Dk.flush_len D
  | q :: l, D => by
    rw [runW]
    split
    · rw [runW_len l, write'_len]
    · exact write'_len _ _ _
theorem runW_spec : ∀ (l : List (Int × List UInt8)) (D : Dk), D.off = false → -1 ≤ D.left → (∀ q ∈ l, okW D.safe.length q) →
    ((runW D l).2 = 0 ∧ (runW D l).1.off = false ∧ (runW D l).1.safe = Dk.keepL (fun _ => true) 0 (D.wet ++ l.map wr) D.safe ∧ (runW D l).1.wet = [] ∧ (D.left = -1 → (runW D l).1.left = -1)) ∨
    ((runW D l).2 = 9 ∧ D.left ≠ -1 ∧ (runW D l).1.safe = D.safe ∧ ∃ k, (runW D l).1.wet = D.wet ++ (l.map wr).take k)
  | [], D, h1, h2, _ => by
    obtain ⟨f1, f2, f3, f4, f5, f6⟩ := flush_facts h1 h2
    rw [runW]
    by_cases q : D.left = 0
    · right
      refine ⟨by rw [f1]; simp [q], by omega, (f5 q).1, 0, by rw [(f5 q).2]; simp⟩
    · left
      refine ⟨by rw [f1]; simp [q], by rw [f2]; simp [q], by rw [(f6 q).1]; simp, (f6 q).2, fun e => by rw [f3, e]; decide⟩
  | q :: l, D, h1, h2, h3 => by
    obtain ⟨i, p⟩ := q
    obtain ⟨o1, o2, o3⟩ := h3 (i, p) (by simp)
    dsimp only at o1 o2 o3
    obtain ⟨f1, f2, f3, f4, f5, f6⟩ := write_facts (i := i.toNat) (p := p) h1 h2
    have hif : ¬ (i < 0 ∨ (D.safe.length : Int) ≤ i ∨ 64 < p.length) := by omega
    have hw : D.write' i p = D.write i.toNat p := by rw [Dk.write', if_neg hif]
    have he : D.eWrite i p = if D.left = 0 then 9 else 0 := by rw [Dk.eWrite, if_neg hif, f1]; by_cases q : D.left = 0 <;> simp [q]
    rw [runW]
    dsimp only
    by_cases q : D.left = 0
    · right
      rw [he, if_pos q, if_neg (by decide), hw]
      exact ⟨rfl, by omega, f5, 1, by rw [f6]; rfl⟩
    · rw [he, if_neg q, if_pos rfl, hw]
      have hl2 : D.left = -1 → (D.write i.toNat p).left = -1 := fun e => by rw [f3, e]; decide
      rcases runW_spec l (D.write i.toNat p) (by rw [f2]; simp [q]) (by rw [f3]; split <;> omega) (fun q hq => by rw [f5]; exact h3 q (by simp [hq])) with ⟨g1, g2, g3, g4, g5⟩ | ⟨g1, g2, g3, k, g4⟩
      · left
        refine ⟨g1, g2, ?_, g4, fun e => g5 (hl2 e)⟩
        rw [g3, f5, f6, List.append_assoc]; rfl
      · right
        refine ⟨g1, fun e => g2 (hl2 e), by rw [g3, f5], k + 1, ?_⟩
        rw [g4, f6, List.append_assoc]; rfl

/-! what may be kept of writes -/
def Mix (W : List (Nat × B64)) (S S' : List B64) : Prop := S'.length = S.length ∧ ∀ j : Nat, S'[j]? = S[j]? ∨ ∃ q ∈ W, q.1 = j ∧ S'[j]? = some q.2
theorem Mix.refl (W : List (Nat × B64)) (S : List B64) : Mix W S S := ⟨rfl, fun _ => .inl rfl⟩
theorem Mix.sub {W W' : List (Nat × B64)} {S S' : List B64} (h : Mix W S S') (hs : ∀ q ∈ W, q ∈ W') : Mix W' S S' :=
  ⟨h.1, fun j => (h.2 j).imp id fun ⟨q, h1, h2⟩ => ⟨q, hs q h1, h2⟩⟩
theorem keepL_mix (f : Nat → Bool) : ∀ (W : List (Nat × B64)) (i : Nat) (S : List B64), Mix W S (Dk.keepL f i W S)
  | [], i, S => Mix.refl _ _
  | q :: W, i, S => by
    have ih := keepL_mix f W (i + 1) (if f i then S.set q.1 q.2 else S)
    rw [Dk.keepL]
    refine ⟨by rw [ih.1]; split <;> simp, fun j => ?_⟩
    rcases ih.2 j with e | ⟨r, h1, h2, h3⟩
    · rw [e]
      split
      · by_cases hj : q.1 = j
        · subst hj
          by_cases hl : q.1 < S.length
          · right; exact ⟨q, by simp, rfl, List.getElem?_set_self hl⟩
          · left; rw [List.getElem?_eq_none (by simp; omega), List.getElem?_eq_none (by omega)]
        · left; exact List.getElem?_set_ne hj
      · exact .inl rfl
    · exact .inr ⟨r, by simp [h1], h2, h3⟩
theorem keepL_get : ∀ (W : List (Nat × B64)) (i : Nat) (S : List B64) (j : Nat), (Dk.keepL (fun _ => true) i W S)[j]? = S[j]?.map (Dk.look W j)
  | [], i, S, j => by rw [Dk.keepL]; cases S[j]? <;> rfl
  | q :: W, i, S, j => by
    rw [Dk.keepL, keepL_get W, if_pos rfl]
    by_cases hj : q.1 = j
    · subst hj
      by_cases hl : q.1 < S.length
      · rw [List.getElem?_set_self hl, List.getElem?_eq_getElem hl]
        simp [Dk.look]
      · rw [List.getElem?_eq_none (by simp; omega), List.getElem?_eq_none (by omega)]; rfl
    · rw [List.getElem?_set_ne hj]
      cases S[j]? with
      | none => rfl
      | some b => simp [Dk.look, hj]
theorem look_cases (j : Nat) : ∀ (W : List (Nat × B64)) (b : B64), (Dk.look W j b = b ∧ ∀ q ∈ W, q.1 ≠ j) ∨ ∃ q ∈ W, q.1 = j ∧ ∀ b', Dk.look W j b' = q.2
  | [], b => .inl ⟨rfl, fun q h => by simp at h⟩
  | q :: W, b => by
    by_cases hj : q.1 = j
    · right
      rcases look_cases j W q.2 with ⟨e, _⟩ | ⟨r, h1, h2, h3⟩
      · exact ⟨q, by simp, hj, fun b' => by rw [Dk.look, if_pos hj, e]⟩
      · exact ⟨r, by simp [h1], h2, fun b' => by rw [Dk.look]; exact h3 _⟩
    · rcases look_cases j W b with ⟨e, h⟩ | ⟨r, h1, h2, h3⟩
      · left
        refine ⟨by rw [Dk.look, if_neg hj, e], fun r hr => ?_⟩
        rcases List.mem_cons.1 hr with rfl | hr
        · exact hj
        · exact h r hr
      · exact .inr ⟨r, by simp [h1], h2, fun b' => by rw [Dk.look]; exact h3 _⟩
/-- all writes of a row in which places tell what is written -/
theorem keepL_all {W : List (Nat × B64)} {S : List B64} {q : Nat × B64} (hq : q ∈ W) (hl : q.1 < S.length) (hu : ∀ r ∈ W, r.1 = q.1 → r.2 = q.2) : (Dk.keepL (fun _ => true) 0 W S)[q.1]? = some q.2 := by
  rw [keepL_get, List.getElem?_eq_getElem hl]
  rcases look_cases q.1 W S[q.1] with ⟨_, h⟩ | ⟨r, h1, h2, h3⟩
  · exact absurd rfl (h q hq)
  · rw [Option.map_some, h3, hu r h1 h2]
/-- what stands for sure once all is written covers what was kept of it -/
theorem keepL_over {W : List (Nat × B64)} {S S' : List B64} (h : Mix W S S') : Dk.keepL (fun _ => true) 0 W S' = Dk.keepL (fun _ => true) 0 W S := by
  apply List.ext_getElem?
  intro j
  rw [keepL_get, keepL_get]
  rcases h.2 j with e | ⟨q, h1, h2, h3⟩
  · rw [e]
  · rw [h3]
    have hj : j < S.length := by
      have := (List.getElem?_eq_some_iff.1 h3).1
      rw [h.1] at this; exact this
    rw [List.getElem?_eq_getElem hj]
    rcases look_cases j W S[j] with ⟨_, e⟩ | ⟨r, _, _, e⟩
    · exact absurd h2 (e q h1)
    · rw [Option.map_some, Option.map_some, e, e]
end Jn
end Go.Sl
