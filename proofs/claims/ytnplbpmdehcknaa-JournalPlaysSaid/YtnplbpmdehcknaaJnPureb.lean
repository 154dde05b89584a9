/- What stands of a transaction behind a crash: all of it, or nothing. Plain Lean. -/
import Derived.Test.YtnplbpmdehcknaaJnPure
set_option linter.unusedVariables false
namespace Go.Sl
namespace Jn
def eff (l : List Pg) : List (Nat × B64) := l.map fun x => (x.at_.toNat, B64.of x.p)
def put (m : List B64) (l : List Pg) : List B64 := Dk.keepL (fun _ => true) 0 (eff l) m
@[simp] theorem put_len (m : List B64) (l : List Pg) : (put m l).length = m.length := Dk.keepL_len _ _ _ _
@[simp] theorem put_nil (m : List B64) : put m [] = m := rfl
def sec (S : List B64) (i : Nat) : B64 := S.getD i B64.zero
structure Rec (S m : List B64) (B : Nat) : Prop where
  len : S.length = 49 + m.length
  nums : ∀ i, i < 49 → num (sec S i).val < B
  pgs : ∀ x ∈ readN (sec S), x.at_ < (m.length : Int)
  val : put (S.drop 49) (readN (sec S)) = m
theorem Rec.next {S m : List B64} {B : Nat} (h : Rec S m B) : Rec S m (nextN (sec S) 49) := ⟨h.len, nextN_lt _ _, h.pgs, h.val⟩
theorem Rec.next_le {S m : List B64} {B : Nat} (h : Rec S m B) : nextN (sec S) 49 ≤ B := nextN_le _ _ _ h.nums
theorem nextN_pos (R : Nat → B64) : 0 < nextN R 49 := by have := nextN_lt R 49 0 (by omega); omega
def okP (N : Nat) (l : List Pg) : Prop := l.length ≤ 24 ∧ ∀ x ∈ l, 0 ≤ x.at_ ∧ x.at_ < (N : Int) ∧ x.p.length ≤ 64
def hd (n : Nat) (a : Int) : List UInt8 := fourN (UInt32.ofInt (n : Int)) ++ fourN (UInt32.ofInt a)
theorem hd_len (n : Nat) (a : Int) : (hd n a).length = 8 := rfl
def half1 (x : Pg) : List UInt8 := (B64.of x.p).val.take 32
def half2 (x : Pg) : List UInt8 := (B64.of x.p).val.drop 32
theorem half1_len (x : Pg) : (half1 x).length = 32 := by simp [half1]
theorem half2_len (x : Pg) : (half2 x).length = 32 := by simp [half2]
def secA (n : Nat) (x : Pg) : B64 := B64.of (hd n x.at_ ++ half1 x)
def secB (n : Nat) (x : Pg) : B64 := B64.of (hd n x.at_ ++ half2 x)
def secH (n c : Nat) : B64 := B64.of (hd n (c : Int))
def layL (n : Nat) : Nat → List Pg → List (Int × List UInt8)
  | _, [] => []
  | i, x :: l => (((1 + 2 * i : Nat) : Int), hd n x.at_ ++ half1 x) :: (((2 + 2 * i : Nat) : Int), hd n x.at_ ++ half2 x) :: layL n (i + 1) l
def layW (n : Nat) (l : List Pg) : List (Int × List UInt8) := layL n 0 l ++ [((0 : Int), hd n (l.length : Int))]
theorem layL_len (n : Nat) : ∀ (l : List Pg) (i : Nat), (layL n i l).length = 2 * l.length
  | [], i => rfl
  | x :: l, i => by simp only [layL, List.length_cons, layL_len n l]; omega
theorem layW_len (n : Nat) (l : List Pg) : (layW n l).length = 2 * l.length + 1 := by simp [layW, layL_len]
theorem mem_layL (n : Nat) : ∀ (l : List Pg) (i : Nat) (q : Int × List UInt8), q ∈ layL n i l ↔ ∃ k x, l[k]? = some x ∧ (q = (((1 + 2 * (i + k) : Nat) : Int), hd n x.at_ ++ half1 x) ∨ q = (((2 + 2 * (i + k) : Nat) : Int), hd n x.at_ ++ half2 x))
  | [], i, q => by simp [layL]
  | x :: l, i, q => by
    rw [layL, List.mem_cons, List.mem_cons, mem_layL n l (i + 1) q]
    constructor
    · rintro (e | e | ⟨k, y, h, e⟩)
      · exact ⟨0, x, rfl, .inl e⟩
      · exact ⟨0, x, rfl, .inr e⟩
      · exact ⟨k + 1, y, h, by rw [show i + (k + 1) = i + 1 + k by omega]; exact e⟩
    · rintro ⟨k, y, h, e⟩
      cases k with
      | zero =>
        cases h
        rcases e with e | e
        · exact .inl e
        · exact .inr (.inl e)
      | succ k => exact .inr (.inr ⟨k, y, h, by rw [show i + 1 + k = i + (k + 1) by omega]; exact e⟩)
theorem mem_lay {n : Nat} {l : List Pg} {q : Nat × B64} : q ∈ (layW n l).map wr ↔ (∃ k x, l[k]? = some x ∧ (q = (1 + 2 * k, secA n x) ∨ q = (2 + 2 * k, secB n x))) ∨ q = (0, secH n l.length) := by
  rw [layW, List.map_append, List.mem_append]
  constructor
  · rintro (h | h)
    · obtain ⟨r, hr, rfl⟩ := List.mem_map.1 h
      obtain ⟨k, x, hk, e⟩ := (mem_layL n l 0 r).1 hr
      rw [Nat.zero_add] at e
      left
      refine ⟨k, x, hk, ?_⟩
      rcases e with rfl | rfl
      · exact .inl rfl
      · exact .inr rfl
    · right
      exact List.mem_singleton.1 h
  · rintro (⟨k, x, hk, e⟩ | rfl)
    · left
      rcases e with rfl | rfl
      · exact List.mem_map.2 ⟨_, (mem_layL n l 0 _).2 ⟨k, x, hk, .inl rfl⟩, by rw [Nat.zero_add]; rfl⟩
      · exact List.mem_map.2 ⟨_, (mem_layL n l 0 _).2 ⟨k, x, hk, .inr rfl⟩, by rw [Nat.zero_add]; rfl⟩
    · right
      exact List.mem_map.2 ⟨_, List.mem_cons_self .., rfl⟩
theorem lay_uniq {n : Nat} {l : List Pg} {q r : Nat × B64} (hq : q ∈ (layW n l).map wr) (hr : r ∈ (layW n l).map wr) (e : r.1 = q.1) : r.2 = q.2 := by
  rcases mem_lay.1 hq with ⟨k, x, hk, rfl | rfl⟩ | rfl <;> rcases mem_lay.1 hr with ⟨k', x', hk', rfl | rfl⟩ | rfl <;> dsimp only at e ⊢ <;> try omega
  · obtain rfl : k = k' := by omega
    rw [hk] at hk'; cases hk'; rfl
  · obtain rfl : k = k' := by omega
    rw [hk] at hk'; cases hk'; rfl
theorem lay_okW {n N : Nat} {l : List Pg} (hl : l.length ≤ 24) : ∀ q ∈ layW n l, okW (49 + N) q := by
  intro q hq
  rw [layW, List.mem_append] at hq
  rcases hq with hq | hq
  · obtain ⟨k, x, hk, e⟩ := (mem_layL n l 0 q).1 hq
    have hkl := (List.getElem?_eq_some_iff.1 hk).1
    rcases e with rfl | rfl
    · refine ⟨by dsimp only; omega, by dsimp only; omega, ?_⟩
      rw [List.length_append, hd_len, half1_len]; decide
    · refine ⟨by dsimp only; omega, by dsimp only; omega, ?_⟩
      rw [List.length_append, hd_len, half2_len]; decide
  · obtain rfl := List.mem_singleton.1 hq
    exact ⟨Int.le_refl _, by dsimp only; omega, by rw [hd_len]; decide⟩

/-! what stands in a journal's sector -/
theorem hd_val (n : Nat) (a : Int) (r : List UInt8) (h : r.length ≤ 56) : (B64.of (hd n a ++ r)).val = fourN (UInt32.ofInt (n : Int)) ++ (fourN (UInt32.ofInt a) ++ (r ++ List.replicate (56 - r.length) 0)) := by
  rw [B64.of_val (by rw [List.length_append, hd_len]; omega), List.length_append, hd_len, hd, List.append_assoc, List.append_assoc]
  rw [show 64 - (8 + r.length) = 56 - r.length by omega]
theorem hd_num {n : Nat} (hn : n < 4294967296) (a : Int) (r : List UInt8) (h : r.length ≤ 56) : num (B64.of (hd n a ++ r)).val = n := by
  rw [hd_val n a r h, num, List.take_left' (fourN_len _), fourN_num n hn]
theorem hd_at (n : Nat) {a : Int} (h0 : 0 ≤ a) (h1 : a < 4294967296) (r : List UInt8) (h : r.length ≤ 56) : num ((B64.of (hd n a ++ r)).val.drop 4) = a.toNat := by
  obtain ⟨k, rfl⟩ : ∃ k : Nat, a = (k : Int) := ⟨a.toNat, by omega⟩
  rw [hd_val n _ r h, List.drop_left' (fourN_len _), num, List.take_left' (fourN_len _), fourN_num k (by omega)]; rfl
theorem hd_half (n : Nat) (a : Int) (r : List UInt8) (h : r.length = 32) : ((B64.of (hd n a ++ r)).val.drop 8).take 32 = r := by
  rw [hd_val n a r (by omega), ← List.append_assoc, List.drop_left' (by rw [List.length_append, fourN_len, fourN_len]), List.take_left' h]
theorem secA_num {n : Nat} (hn : n < 4294967296) (x : Pg) : num (secA n x).val = n := hd_num hn _ _ (by rw [half1_len]; decide)
theorem secB_num {n : Nat} (hn : n < 4294967296) (x : Pg) : num (secB n x).val = n := hd_num hn _ _ (by rw [half2_len]; decide)
theorem secH_num {n : Nat} (hn : n < 4294967296) (c : Nat) : num (secH n c).val = n := by
  have := hd_num hn (c : Int) [] (by simp)
  rwa [List.append_nil] at this
theorem secH_cnt (n : Nat) {c : Nat} (hc : c < 4294967296) : num ((secH n c).val.drop 4) = c := by
  have := hd_at n (a := (c : Int)) (by omega) (by omega) [] (by simp)
  rwa [List.append_nil] at this
theorem lay_num {n : Nat} (hn : n < 4294967296) {l : List Pg} {q : Nat × B64} (hq : q ∈ (layW n l).map wr) : num q.2.val = n := by
  rcases mem_lay.1 hq with ⟨k, x, hk, rfl | rfl⟩ | rfl
  · exact secA_num hn x
  · exact secB_num hn x
  · exact secH_num hn _
/-- pages as a journal tells them -/
def lp (l : List Pg) : List Pg := l.map fun x => ⟨x.at_, (B64.of x.p).val⟩
theorem eff_lp (l : List Pg) : eff (lp l) = eff l := by
  rw [eff, lp, List.map_map, eff]
  exact List.map_congr_left fun x _ => by
    show (x.at_.toNat, B64.of (B64.of x.p).val) = _
    rw [B64.of_of]
theorem page_new {R : Nat → B64} {n i : Nat} {x : Pg} (h0 : 0 ≤ x.at_) (h1 : x.at_ < 4294967296) (ha : R (1 + 2 * i) = secA n x) (hb : R (2 + 2 * i) = secB n x) : pageN R i = ⟨x.at_, (B64.of x.p).val⟩ := by
  rw [pageN, ha, hb, secA, secB, hd_at n h0 h1 _ (by rw [half1_len]; decide), hd_half _ _ _ (half1_len x), hd_half _ _ _ (half2_len x)]
  rw [half1, half2, List.take_append_drop, show ((x.at_.toNat : Nat) : Int) = x.at_ by omega]
theorem read_new {R : Nat → B64} {n N : Nat} {l : List Pg} (h0 : 0 < n) (hn : n < 4294967296) (hN : N ≤ 4294967296) (hl : okP N l) (hh : R 0 = secH n l.length)
    (hs : ∀ i x, l[i]? = some x → R (1 + 2 * i) = secA n x ∧ R (2 + 2 * i) = secB n x) : readN R = lp l := by
  have e1 : num (R 0).val = n := by rw [hh, secH_num hn]
  have e2 : num ((R 0).val.drop 4) = l.length := by rw [hh, secH_cnt n (by have := hl.1; omega)]
  unfold readN
  rw [e1, e2, if_neg (by have := hl.1; omega), if_pos]
  · apply List.ext_getElem?
    intro i
    by_cases hi : i < l.length
    · have hx : l[i]? = some l[i] := List.getElem?_eq_getElem hi
      obtain ⟨x1, x2, x3⟩ := hl.2 l[i] (List.getElem_mem hi)
      rw [List.getElem?_map, List.getElem?_range hi, lp, List.getElem?_map, hx, Option.map_some, Option.map_some, page_new x1 (by omega) (hs i _ hx).1 (hs i _ hx).2]
    · rw [List.getElem?_eq_none (by simp; omega), List.getElem?_eq_none (by simp [lp]; omega)]
  · intro i hi
    have hx : l[i]? = some l[i] := List.getElem?_eq_getElem hi
    exact ⟨by rw [(hs i _ hx).1, secA_num hn], by rw [(hs i _ hx).2, secB_num hn]⟩

theorem sec_mix {W : List (Nat × B64)} {S S' : List B64} (h : Mix W S S') (i : Nat) (hi : i < S.length) : sec S' i = sec S i ∨ ∃ q ∈ W, q.1 = i ∧ sec S' i = q.2 := by
  unfold sec
  rw [List.getD_eq_getElem?_getD, List.getD_eq_getElem?_getD]
  rcases h.2 i with e | ⟨q, h1, h2, h3⟩
  · left; rw [e]
  · right; exact ⟨q, h1, h2, by rw [h3]; rfl⟩
theorem lay_drop {n : Nat} {l : List Pg} {S S' : List B64} (hl : l.length ≤ 24) (h : Mix ((layW n l).map wr) S S') : S'.drop 49 = S.drop 49 := by
  apply List.ext_getElem?
  intro j
  rw [List.getElem?_drop, List.getElem?_drop]
  rcases h.2 (49 + j) with e | ⟨q, h1, h2, h3⟩
  · exact e
  · exfalso
    rcases mem_lay.1 h1 with ⟨k, x, hk, rfl | rfl⟩ | rfl
    · have := (List.getElem?_eq_some_iff.1 hk).1; dsimp only at h2; omega
    · have := (List.getElem?_eq_some_iff.1 hk).1; dsimp only at h2; omega
    · dsimp only at h2; omega

theorem lay_crash {S S' m : List B64} {n : Nat} {l : List Pg} (hr : Rec S m n) (hdm : S.drop 49 = m) (h0 : 0 < n) (hn : n < 4294967296) (hN : m.length ≤ 4294967296) (hl : okP m.length l) (hm : Mix ((layW n l).map wr) S S') :
    S'.drop 49 = m ∧ (Rec S' m (n + 1) ∨ Rec S' (put m l) (n + 1)) := by
  have hdr := lay_drop hl.1 hm
  have hlen : S'.length = 49 + m.length := by rw [hm.1]; exact hr.len
  have hSl : 49 ≤ S.length := by have := hr.len; omega
  have hsec := fun i (hi : i < 49) => sec_mix hm i (by omega)
  have hnums : ∀ i, i < 49 → num (sec S' i).val < n + 1 := fun i hi => by
    rcases hsec i hi with e | ⟨q, h1, _, e⟩
    · rw [e]; have := hr.nums i hi; omega
    · rw [e, lay_num hn h1]; omega
  have hnil : readN (sec S') = [] → Rec S' m (n + 1) := fun e => ⟨hlen, hnums, by rw [e]; simp, by rw [e, hdr, hdm]; rfl⟩
  -- a sector that has another number is the one that was there
  have hold : ∀ i, i < 49 → num (sec S' i).val ≠ n → sec S' i = sec S i := fun i hi e => by
    rcases hsec i hi with e2 | ⟨q, h1, _, e2⟩
    · exact e2
    · exact absurd (by rw [e2, lay_num hn h1]) e
  have hnew : ∀ i, i < 49 → num (sec S' i).val = n → ∃ q ∈ (layW n l).map wr, q.1 = i ∧ sec S' i = q.2 := fun i hi e => by
    rcases hsec i hi with e2 | e2
    · have := hr.nums i hi; rw [e2] at e; omega
    · exact e2
  refine ⟨by rw [hdr, hdm], ?_⟩
  by_cases hc : num (sec S' 0).val = n
  · obtain ⟨q, h1, h2, h3⟩ := hnew 0 (by omega) hc
    have hq : q = (0, secH n l.length) := by
      rcases mem_lay.1 h1 with ⟨k, x, hk, rfl | rfl⟩ | rfl
      · dsimp only at h2; omega
      · dsimp only at h2; omega
      · rfl
    subst hq
    have e2 : num ((sec S' 0).val.drop 4) = l.length := by rw [h3, secH_cnt n (by have := hl.1; omega)]
    by_cases hall : ∀ i, i < l.length → sameN (sec S') n i
    · right
      have hrd : readN (sec S') = lp l := by
        refine read_new h0 hn hN hl h3 fun i x hx => ?_
        have hi := (List.getElem?_eq_some_iff.1 hx).1
        have hl24 := hl.1
        constructor
        · obtain ⟨q, g1, g2, g3⟩ := hnew (1 + 2 * i) (by omega) (hall i hi).1
          have : (1 + 2 * i, secA n x) ∈ (layW n l).map wr := mem_lay.2 (.inl ⟨i, x, hx, .inl rfl⟩)
          rw [g3]
          exact lay_uniq this g1 g2
        · obtain ⟨q, g1, g2, g3⟩ := hnew (2 + 2 * i) (by omega) (hall i hi).2
          have : (2 + 2 * i, secB n x) ∈ (layW n l).map wr := mem_lay.2 (.inl ⟨i, x, hx, .inr rfl⟩)
          rw [g3]
          exact lay_uniq this g1 g2
      refine ⟨by rw [hlen, put_len], hnums, ?_, ?_⟩
      · rw [hrd, put_len]
        intro x hx
        obtain ⟨y, hy, rfl⟩ := List.mem_map.1 hx
        exact (hl.2 y hy).2.1
      · rw [hrd, hdr, hdm, put, eff_lp]; rfl
    · left
      apply hnil
      unfold readN
      rw [hc, e2, if_neg hall]
      split <;> rfl
  · left
    have e0 := hold 0 (by omega) hc
    by_cases h24 : 24 < num ((sec S' 0).val.drop 4) ∨ num (sec S' 0).val = 0
    · apply hnil
      unfold readN
      rw [if_pos h24]
    · by_cases hall : ∀ i, i < num ((sec S' 0).val.drop 4) → sameN (sec S') (num (sec S' 0).val) i
      · have hs : ∀ i, i < num ((sec S' 0).val.drop 4) → sec S' (1 + 2 * i) = sec S (1 + 2 * i) ∧ sec S' (2 + 2 * i) = sec S (2 + 2 * i) := fun i hi =>
          ⟨hold _ (by omega) (by rw [(hall i hi).1]; exact hc), hold _ (by omega) (by rw [(hall i hi).2]; exact hc)⟩
        have hrd : readN (sec S') = readN (sec S) := by
          unfold readN
          rw [if_neg h24, if_pos hall, ← e0, if_neg h24, if_pos]
          · exact List.map_congr_left fun i hi => by rw [pageN, pageN, (hs i (List.mem_range.1 hi)).1, (hs i (List.mem_range.1 hi)).2]
          · intro i hi
            have := hall i hi
            rwa [sameN, (hs i hi).1, (hs i hi).2] at this
        exact ⟨hlen, hnums, by rw [hrd]; exact hr.pgs, by rw [hrd, hdr]; exact hr.val⟩
      · apply hnil
        unfold readN
        rw [if_neg h24, if_neg hall]
theorem lay_all {S m : List B64} {n : Nat} {l : List Pg} (hr : Rec S m n) (hdm : S.drop 49 = m) (h0 : 0 < n) (hn : n < 4294967296) (hN : m.length ≤ 4294967296) (hl : okP m.length l) :
    Rec (Dk.keepL (fun _ => true) 0 ((layW n l).map wr) S) (put m l) (n + 1) ∧ readN (sec (Dk.keepL (fun _ => true) 0 ((layW n l).map wr) S)) = lp l := by
  have hm := keepL_mix (fun _ => true) ((layW n l).map wr) 0 S
  have hSl : 49 ≤ S.length := by have := hr.len; omega
  have hget : ∀ q ∈ (layW n l).map wr, q.1 < 49 → sec (Dk.keepL (fun _ => true) 0 ((layW n l).map wr) S) q.1 = q.2 := fun q hq hq9 => by
    have := keepL_all hq (by omega : q.1 < S.length) (fun r hr' e => lay_uniq hq hr' e)
    rw [sec, List.getD_eq_getElem?_getD, this]; rfl
  have hl24 := hl.1
  have hrd : readN (sec (Dk.keepL (fun _ => true) 0 ((layW n l).map wr) S)) = lp l := by
    refine read_new h0 hn hN hl (hget _ (mem_lay.2 (.inr rfl)) (by dsimp only; omega)) fun i x hx => ?_
    have hi := (List.getElem?_eq_some_iff.1 hx).1
    exact ⟨hget _ (mem_lay.2 (.inl ⟨i, x, hx, .inl rfl⟩)) (by dsimp only; omega), hget _ (mem_lay.2 (.inl ⟨i, x, hx, .inr rfl⟩)) (by dsimp only; omega)⟩
  have hdr := lay_drop hl.1 hm
  refine ⟨⟨by rw [hm.1, put_len]; exact hr.len, fun i hi => ?_, ?_, ?_⟩, hrd⟩
  · rcases sec_mix hm i (by omega) with e | ⟨q, h1, _, e⟩
    · rw [e]; have := hr.nums i hi; omega
    · rw [e, lay_num hn h1]; omega
  · rw [hrd, put_len]
    intro x hx
    obtain ⟨y, hy, rfl⟩ := List.mem_map.1 hx
    exact (hl.2 y hy).2.1
  · rw [hrd, hdr, hdm, put, eff_lp]; rfl

/-! the pages written where they belong -/
def applyW (l : List Pg) : List (Int × List UInt8) := l.map fun x => (49 + x.at_, x.p)
theorem apply_okW {N : Nat} {l : List Pg} (hl : ∀ x ∈ l, 0 ≤ x.at_ ∧ x.at_ < (N : Int) ∧ x.p.length ≤ 64) : ∀ q ∈ applyW l, okW (49 + N) q := by
  intro q hq
  obtain ⟨x, hx, rfl⟩ := List.mem_map.1 hq
  obtain ⟨h1, h2, h3⟩ := hl x hx
  exact ⟨by dsimp only; omega, by dsimp only; omega, h3⟩
theorem mem_apply {N : Nat} {l : List Pg} (hl : ∀ x ∈ l, 0 ≤ x.at_ ∧ x.at_ < (N : Int) ∧ x.p.length ≤ 64) {q : Nat × B64} (hq : q ∈ (applyW l).map wr) : ∃ x ∈ l, q = (49 + x.at_.toNat, B64.of x.p) := by
  rw [applyW, List.map_map] at hq
  obtain ⟨x, hx, rfl⟩ := List.mem_map.1 hq
  refine ⟨x, hx, ?_⟩
  show ((49 + x.at_).toNat, B64.of x.p) = _
  rw [show (49 + x.at_).toNat = 49 + x.at_.toNat by have := (hl x hx).1; omega]
theorem apply_sec {N : Nat} {l : List Pg} {S S' : List B64} (hl : ∀ x ∈ l, 0 ≤ x.at_ ∧ x.at_ < (N : Int) ∧ x.p.length ≤ 64) (hS : 49 ≤ S.length) (hm : Mix ((applyW l).map wr) S S') : ∀ i, i < 49 → sec S' i = sec S i := by
  intro i hi
  rcases sec_mix hm i (by omega) with e | ⟨q, h1, h2, _⟩
  · exact e
  · obtain ⟨x, _, rfl⟩ := mem_apply hl h1
    dsimp only at h2; omega
theorem apply_mix {S S' m : List B64} {B : Nat} {l : List Pg} (hr : Rec S m B) (he : eff (readN (sec S)) = eff l) (hl : ∀ x ∈ l, 0 ≤ x.at_ ∧ x.at_ < (m.length : Int) ∧ x.p.length ≤ 64) (hm : Mix ((applyW l).map wr) S S') : Rec S' m B := by
  have hs := apply_sec hl (by have := hr.len; omega) hm
  have hrd : readN (sec S') = readN (sec S) := readN_congr hs
  have hmd : Mix (eff l) (S.drop 49) (S'.drop 49) := by
    refine ⟨by rw [List.length_drop, List.length_drop, hm.1], fun j => ?_⟩
    rw [List.getElem?_drop, List.getElem?_drop]
    rcases hm.2 (49 + j) with e | ⟨q, h1, h2, h3⟩
    · exact .inl e
    · obtain ⟨x, hx, rfl⟩ := mem_apply hl h1
      exact .inr ⟨(x.at_.toNat, B64.of x.p), List.mem_map.2 ⟨x, hx, rfl⟩, by dsimp only at h2 ⊢; omega, h3⟩
  refine ⟨by rw [hm.1]; exact hr.len, fun i hi => by rw [hs i hi]; exact hr.nums i hi, by rw [hrd]; exact hr.pgs, ?_⟩
  rw [hrd, put, he, keepL_over hmd, ← he]; exact hr.val
theorem look_apply (j : Nat) : ∀ (l : List Pg) (b : B64), (∀ x ∈ l, 0 ≤ x.at_) → Dk.look ((applyW l).map wr) (49 + j) b = Dk.look (eff l) j b
  | [], b, _ => rfl
  | x :: l, b, h => by
    have h0 := h x (by simp)
    show Dk.look (wr (49 + x.at_, x.p) :: (applyW l).map wr) (49 + j) b = Dk.look ((x.at_.toNat, B64.of x.p) :: eff l) j b
    rw [Dk.look, Dk.look, look_apply j l _ (fun y hy => h y (by simp [hy]))]
    congr 1
    show (if (49 + x.at_).toNat = 49 + j then B64.of x.p else b) = if x.at_.toNat = j then B64.of x.p else b
    by_cases e : x.at_.toNat = j
    · rw [if_pos e, if_pos (by omega)]
    · rw [if_neg e, if_neg (by omega)]
theorem apply_all {S : List B64} {l : List Pg} (h : ∀ x ∈ l, 0 ≤ x.at_) : (Dk.keepL (fun _ => true) 0 ((applyW l).map wr) S).drop 49 = put (S.drop 49) l := by
  apply List.ext_getElem?
  intro j
  rw [List.getElem?_drop, keepL_get, put, keepL_get, List.getElem?_drop]
  cases S[49 + j]? with
  | none => rfl
  | some b => rw [Option.map_some, Option.map_some, look_apply j l b h]

/-! disks -/
structure Mid (D : Dk) (m : List B64) (B : Nat) : Prop where
  off : D.off = false
  wet : D.wet = []
  kept : Rec D.safe m B
structure Rest (D : Dk) (m : List B64) (B : Nat) : Prop extends Mid D m B where
  dat : D.safe.drop 49 = m
theorem Mid.read {D : Dk} {m : List B64} {B : Nat} (h : Mid D m B) : D.read = sec D.safe := by
  funext i
  rw [Dk.read, h.wet]; rfl
theorem Mid.next {D : Dk} {m : List B64} {B : Nat} (h : Mid D m B) : Mid D m (nextN D.read 49) := ⟨h.off, h.wet, by rw [h.read]; exact h.kept.next⟩
theorem crash_mid {D : Dk} {m : List B64} {B : Nat} (k : List UInt8) (h : Rec (Dk.keepL (Dk.bit k) 0 D.wet D.safe) m B) : Mid (D.crash k) m B := ⟨rfl, rfl, h⟩
/-- a disk is opened: what its journal tells is written -/
def openN (D : Dk) : Dk × Int := if readN D.read = [] then (D, 0) else runW D (applyW (readN D.read))
theorem open_law {D : Dk} {m : List B64} {B : Nat} (h : Mid D m B) (hl : -1 ≤ D.left) :
    ((openN D).2 = 0 ∧ Rest (openN D).1 m B ∧ (D.left = -1 → (openN D).1.left = -1)) ∨ ((openN D).2 = 9 ∧ D.left ≠ -1 ∧ ∀ k, Mid ((openN D).1.crash k) m B) := by
  unfold openN
  rw [h.read]
  have hr := h.kept
  by_cases e : readN (sec D.safe) = []
  · left
    rw [if_pos e]
    refine ⟨rfl, ⟨h, ?_⟩, id⟩
    have := hr.val
    rwa [e, put_nil] at this
  · rw [if_neg e]
    have hp : ∀ x ∈ readN (sec D.safe), 0 ≤ x.at_ ∧ x.at_ < (m.length : Int) ∧ x.p.length ≤ 64 := fun x hx =>
      ⟨(readN_p hx).2.1, hr.pgs x hx, by rw [(readN_p hx).1]; omega⟩
    have hok : ∀ q ∈ applyW (readN (sec D.safe)), okW D.safe.length q := by rw [hr.len]; exact apply_okW hp
    have hW : D.wet ++ (applyW (readN (sec D.safe))).map wr = (applyW (readN (sec D.safe))).map wr := by rw [h.wet]; rfl
    rcases runW_spec _ D h.off hl hok with ⟨g1, g2, g3, g4, g5⟩ | ⟨g1, g2, g3, k, g4⟩
    · left
      rw [hW] at g3
      refine ⟨g1, ⟨⟨g2, g4, ?_⟩, ?_⟩, g5⟩
      · rw [g3]
        exact apply_mix hr rfl hp (keepL_mix _ _ _ _)
      · rw [g3, apply_all (fun x hx => (hp x hx).1)]; exact hr.val
    · right
      refine ⟨g1, g2, fun c => crash_mid c ?_⟩
      rw [g3, g4, h.wet, List.nil_append]
      exact apply_mix hr rfl hp ((keepL_mix _ _ _ _).sub fun q hq => List.mem_of_mem_take hq)
theorem lay_law {D : Dk} {m : List B64} {n : Nat} {l : List Pg} (h : Rest D m n) (hl : -1 ≤ D.left) (h0 : 0 < n) (hn : n < 4294967296) (hN : m.length ≤ 4294967296) (hp : okP m.length l) :
    ((runW D (layW n l)).2 = 0 ∧ Mid (runW D (layW n l)).1 (put m l) (n + 1) ∧ readN (sec (runW D (layW n l)).1.safe) = lp l ∧ (D.left = -1 → (runW D (layW n l)).1.left = -1)) ∨
    ((runW D (layW n l)).2 = 9 ∧ D.left ≠ -1 ∧ ∀ k, Mid ((runW D (layW n l)).1.crash k) m (n + 1) ∨ Mid ((runW D (layW n l)).1.crash k) (put m l) (n + 1)) := by
  have hr := h.kept
  have hok : ∀ q ∈ layW n l, okW D.safe.length q := by rw [hr.len]; exact lay_okW hp.1
  have hW : D.wet ++ (layW n l).map wr = (layW n l).map wr := by rw [h.wet]; rfl
  rcases runW_spec _ D h.off hl hok with ⟨g1, g2, g3, g4, g5⟩ | ⟨g1, g2, g3, k, g4⟩
  · left
    rw [hW] at g3
    have := lay_all hr h.dat h0 hn hN hp
    refine ⟨g1, ⟨g2, g4, ?_⟩, ?_, g5⟩
    · rw [g3]; exact this.1
    · rw [g3]; exact this.2
  · right
    refine ⟨g1, g2, fun c => ?_⟩
    have hm : Mix ((layW n l).map wr) D.safe (Dk.keepL (Dk.bit c) 0 (runW D (layW n l)).1.wet (runW D (layW n l)).1.safe) := by
      rw [g3, g4, h.wet, List.nil_append]
      exact (keepL_mix _ _ _ _).sub fun q hq => List.mem_of_mem_take hq
    rcases (lay_crash hr h.dat h0 hn hN hp hm).2 with e | e
    · exact .inl (crash_mid c e)
    · exact .inr (crash_mid c e)
/-- a transaction: laid down, then written where it belongs -/
def writeN (D : Dk) (n : Nat) (l : List Pg) : Dk × Int := if (runW D (layW n l)).2 = 0 then runW (runW D (layW n l)).1 (applyW l) else runW D (layW n l)
theorem write_law {D : Dk} {m : List B64} {n : Nat} {l : List Pg} (h : Rest D m n) (hk : D.ok) (ha : D.acts + (2 * l.length + 2) ≤ 1000000000) (h0 : 0 < n) (hn : n < 4294967296) (hN : m.length ≤ 4294967296) (hp : okP m.length l) :
    ((writeN D n l).2 = 0 ∧ Rest (writeN D n l).1 (put m l) (n + 1) ∧ (D.left = -1 → (writeN D n l).1.left = -1)) ∨
    ((writeN D n l).2 = 9 ∧ D.left ≠ -1 ∧ ∀ k, Mid ((writeN D n l).1.crash k) m (n + 1) ∨ Mid ((writeN D n l).1.crash k) (put m l) (n + 1)) := by
  have hl := hk.2.2.1
  unfold writeN
  rcases lay_law h hl h0 hn hN hp with ⟨g1, g2, g3, g4⟩ | ⟨g1, g2, g3⟩
  · rw [if_pos g1]
    have hr := g2.kept
    have hl2 := (runW_ok (layW n l) D hk (by rw [layW_len]; omega)).1.2.2.1
    generalize (runW D (layW n l)).1 = D2 at *
    have hok : ∀ q ∈ applyW l, okW D2.safe.length q := by rw [hr.len, put_len]; exact apply_okW hp.2
    have hp2 : ∀ x ∈ l, 0 ≤ x.at_ ∧ x.at_ < ((put m l).length : Int) ∧ x.p.length ≤ 64 := by rw [put_len]; exact hp.2
    have he : eff (readN (sec D2.safe)) = eff l := by rw [g3, eff_lp]
    have hW : D2.wet ++ (applyW l).map wr = (applyW l).map wr := by rw [g2.wet]; rfl
    rcases runW_spec _ D2 g2.off hl2 hok with ⟨e1, e2, e3, e4, e5⟩ | ⟨e1, e2, e3, k, e4⟩
    · left
      rw [hW] at e3
      refine ⟨e1, ⟨⟨e2, e4, ?_⟩, ?_⟩, fun q => e5 (g4 q)⟩
      · rw [e3]; exact apply_mix hr he hp2 (keepL_mix _ _ _ _)
      · rw [e3, apply_all (fun x hx => (hp.2 x hx).1)]
        have := hr.val
        rwa [put, he] at this
    · right
      refine ⟨e1, fun q => e2 (g4 q), fun c => .inr (crash_mid c ?_)⟩
      rw [e3, e4, g2.wet, List.nil_append]
      exact apply_mix hr he hp2 ((keepL_mix _ _ _ _).sub fun q hq => List.mem_of_mem_take hq)
  · rw [if_neg (by rw [g1]; decide)]
    exact .inr ⟨g1, g2, g3⟩
/-- a new disk -/
theorem new_mid (N : Nat) : Mid (Dk.new (49 + N)) (List.replicate N B64.zero) 1 := by
  have hs : ∀ i, sec (List.replicate (49 + N) B64.zero) i = B64.zero := fun i => by
    rw [sec, List.getD_eq_getElem?_getD]
    by_cases h : i < 49 + N
    · rw [List.getElem?_replicate, if_pos h]; rfl
    · rw [List.getElem?_replicate, if_neg h]; rfl
  have hz : num B64.zero.val = 0 := by decide
  have hrd : readN (sec (List.replicate (49 + N) B64.zero)) = [] := by
    unfold readN
    rw [hs, if_pos (.inr hz)]
  refine ⟨rfl, rfl, ⟨by simp [Dk.new], fun i _ => ?_, ?_, ?_⟩⟩
  · show num (sec (List.replicate (49 + N) B64.zero) i).val < 1
    rw [hs, hz]; decide
  · show ∀ x ∈ readN (sec (List.replicate (49 + N) B64.zero)), _
    rw [hrd]; simp
  · show put ((List.replicate (49 + N) B64.zero).drop 49) (readN (sec (List.replicate (49 + N) B64.zero))) = _
    rw [hrd, put_nil, List.drop_replicate]; congr 1; omega
end Jn
end Go.Sl
