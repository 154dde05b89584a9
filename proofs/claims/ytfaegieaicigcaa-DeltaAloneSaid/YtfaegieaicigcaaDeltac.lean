/- The contract of Make. -/
import Derived.Test.YtfaegieaicigcaaDeltab
set_option linter.unusedVariables false
set_option linter.unusedSimpArgs false
set_option maxRecDepth 10000
set_option maxHeartbeats 2000000
namespace Go.Proofs.K
open Go.Sl
attribute [local irreducible] Go.Sl.Own Go.Sl.Blk Go.Sl.Sep Go.Sl.Ex Go.Sl.Fact

theorem makeN_fuel (base : List UInt8) : ∀ (f g : Nat) (q t : List UInt8), q.length ≤ f → q.length ≤ g → makeN base f q t = makeN base g q t
  | 0, 0, [], t, _, _ => rfl
  | 0, _ + 1, [], t, _, _ => rfl
  | _ + 1, 0, [], t, _, _ => rfl
  | _ + 1, _ + 1, [], t, _, _ => rfl
  | 0, _, _ :: _, _, h, _ => by simp at h
  | _ + 1, 0, _ :: _, _, _, h => by simp at h
  | f + 1, g + 1, x :: r, t, h, h' => by
    simp only [List.length_cons] at h h'
    rw [makeN, makeN]
    by_cases q : (longN base (x :: r)).2 < 4
    · rw [if_pos q, if_pos q, makeN_fuel base f g r (t ++ [x]) (by omega) (by omega)]
    · have e : ((x :: r).drop (longN base (x :: r)).2).length ≤ r.length := by simp only [List.length_drop, List.length_cons]; omega
      rw [if_neg q, if_neg q, makeN_fuel base f g _ [] (by omega) (by omega)]
/-- what is made of what is left -/
def makeA (base q t : List UInt8) : List UInt8 := makeN base q.length q t
theorem makeA_nil (base t : List UInt8) : makeA base [] t = tellN t := rfl
theorem makeA_one {base q t : List UInt8} (hq : 0 < q.length) (h : (longN base q).2 < 4) : makeA base q t = makeA base (q.drop 1) (t ++ [q.getD 0 0]) := by
  cases q with
  | nil => simp at hq
  | cons x r => show makeN base (r.length + 1) (x :: r) t = makeN base r.length r (t ++ [x]); rw [makeN, if_pos h]
theorem makeA_long {base q t : List UInt8} (h : ¬ (longN base q).2 < 4) : makeA base q t = tellN t ++ numN (2 * (longN base q).2 + 1) ++ numN (longN base q).1 ++ makeA base (q.drop (longN base q).2) [] := by
  cases q with
  | nil => have := (longN_le base []).1; simp at this; omega
  | cons x r =>
    show makeN base (r.length + 1) (x :: r) t = _
    rw [makeN, if_neg h]
    congr 1
    exact makeN_fuel base _ _ _ _ (by simp only [List.length_drop, List.length_cons]; omega) (Nat.le_refl _)
theorem tellN_le {t : List UInt8} (h : t.length ≤ 4294967296) : (tellN t).length ≤ t.length + 10 := by
  have := numN_len9 (2 * t.length) (by omega)
  unfold tellN; split <;> simp <;> omega
theorem mk_open {n : Nat} {s w : World} {a : Act} {E : List (Nat × Value)} {b : Nat} {F : List HItem} (h : St n s a w E (Blk b (.cells #[.slice none 0 0, .slice none 0 0] t_delta_maker) :: F)) :
    St n s a w E (Blk b (.cells #[.slice none 0 0, .slice none 0 0] t_delta_maker) :: OwnB (.slice none 0 0) [] :: OwnB (.slice none 0 0) [] :: F) :=
  ⟨h.1, h.addNilb.addNilb.2.perm (List.perm_middle (l₁ := [OwnB (.slice none 0 0) [], OwnB (.slice none 0 0) []]))⟩

theorem delta_Make (s w : World) (bw pv : Value) (base p : List UInt8) (F : List HItem) (hb : ViewsB F bw base) (hp : ViewsB F pv p) (hl : p.length ≤ 1000000) (hs : Sat s w F) :
    Calls P n_delta_Make #[bw, pv] w (Ret s (fun v : Value => v) (fun v => OwnB v (deltaN base p) :: F) (fun _ => True)) := by
  have hbl := ViewsB.len_le hb hs
  refine enter K.fn_delta_Make rfl K.nt_delta_Make rfl hs ?_
  clear hs w; intro a w h
  refine c_seq (c_region ?_)
  refine wv h (r_assign h rfl) rfl ?_
  clear h a w; intro a w h
  refine wnil (c_then ?_)
  refine c_seq (c_region ?_)
  refine wv h (r_build h K.u_delta_maker K.z_delta_maker K.pl_delta_maker rfl rfl) rfl ?_
  clear h a w; intro a w h
  refine wl rfl (op_box h rfl rfl ?_)
  clear h a w; intro b a w h
  try simp only [Value.cells] at h
  replace h := mk_open h
  refine wv h (r_assign h rfl) rfl ?_
  clear h a w; intro a w h
  refine wnil (c_then ?_)
  refine c_seq ?_
  refine c_block ?_
  refine c_loopX h (X := Value × Value × Value × List UInt8 × List UInt8 × List UInt8) (fun x => [(0, bw), (1, x.2.2.1), (5, .pointer (some ⟨b, 0, none⟩))]) (fun x => Blk b (.cells #[x.1, x.2.1] t_delta_maker) :: OwnB x.1 x.2.2.2.1 :: OwnB x.2.1 x.2.2.2.2.1 :: F)
    (fun x => ViewsB F x.2.2.1 x.2.2.2.2.2 ∧ x.2.2.2.1 ++ makeA base x.2.2.2.2.2 x.2.2.2.2.1 = deltaN base p ∧ x.2.2.2.1.length + x.2.2.2.2.1.length + 31 * x.2.2.2.2.2.length ≤ 31 * p.length) (fun x => x.2.2.2.2.2.length) (.slice none 0 0, .slice none 0 0, pv, [], [], p) (h.keep [0, 1, 5]) ⟨hp, rfl, by simp⟩ ?_
  clear h a w; intro x a w hx h
  obtain ⟨vp, vt, qv, l, t, q⟩ := x
  obtain ⟨hq, hx2, hx3⟩ := hx
  dsimp only at hq hx2 hx3 h
  have hn := longN_le base q
  have hqc := ((hq.cons (OwnB vt t)).cons (OwnB vp l)).cons (Blk b (.cells #[vp, vt] t_delta_maker))
  have hbc := ((hb.cons (OwnB vt t)).cons (OwnB vp l)).cons (Blk b (.cells #[vp, vt] t_delta_maker))
  as_aux_lemma =>
    refine c_seq ?_
    refine c_seq (c_region ?_)
    refine wv h (r_move h rfl) rfl ?_
    clear h a w; intro a w h
    refine wv h (r_lenB h rfl K.u_S_uint8 (by first | exact ViewsB.own 0 rfl | exact ViewsB.own 1 rfl | exact ViewsB.own 2 rfl | exact ViewsB.own 3 rfl | exact ViewsB.own 4 rfl | exact ViewsB.own 5 rfl | assumption | exact ViewsB.nil _ | exact ViewsB.arr 0 rfl (by first | assumption | rfl | (simp; done)) (Nat.le_refl _) (by simp [maxLen]) | exact ViewsB.arr 1 rfl (by first | assumption | rfl | (simp; done)) (Nat.le_refl _) (by simp [maxLen]) | exact ViewsB.arr 2 rfl (by first | assumption | rfl | (simp; done)) (Nat.le_refl _) (by simp [maxLen]) | exact ViewsB.arr 3 rfl (by first | assumption | rfl | (simp; done)) (Nat.le_refl _) (by simp [maxLen]) | exact ViewsB.arr 4 rfl (by first | assumption | rfl | (simp; done)) (Nat.le_refl _) (by simp [maxLen]) | exact ViewsB.of_drop 1 (by assumption) | exact ViewsB.of_drop 2 (by assumption) | exact ViewsB.of_drop 3 (by assumption) | exact ViewsB.of_drop 4 (by assumption) | exact ViewsB.of_drop 5 (by assumption) | exact ViewsB.of_drop 6 (by assumption) | exact ViewsB.of_drop 7 (by assumption) | exact ViewsB.of_drop 8 (by assumption) | exact ViewsB.of_drop 9 (by assumption) | exact ViewsB.of_drop 10 (by assumption) | exact ViewsB.of_drop 11 (by assumption) | exact ViewsB.of_drop 12 (by assumption) | exact ViewsB.sub (by first | exact ViewsB.own 0 rfl | exact ViewsB.own 1 rfl | exact ViewsB.own 2 rfl | exact ViewsB.own 3 rfl | exact ViewsB.own 4 rfl | exact ViewsB.own 5 rfl | assumption | exact ViewsB.nil _ | exact ViewsB.arr 0 rfl (by first | assumption | rfl | (simp; done)) (Nat.le_refl _) (by simp [maxLen]) | exact ViewsB.arr 1 rfl (by first | assumption | rfl | (simp; done)) (Nat.le_refl _) (by simp [maxLen]) | exact ViewsB.arr 2 rfl (by first | assumption | rfl | (simp; done)) (Nat.le_refl _) (by simp [maxLen]) | exact ViewsB.arr 3 rfl (by first | assumption | rfl | (simp; done)) (Nat.le_refl _) (by simp [maxLen]) | exact ViewsB.arr 4 rfl (by first | assumption | rfl | (simp; done)) (Nat.le_refl _) (by simp [maxLen]) | exact ViewsB.of_drop 1 (by assumption) | exact ViewsB.of_drop 2 (by assumption) | exact ViewsB.of_drop 3 (by assumption) | exact ViewsB.of_drop 4 (by assumption) | exact ViewsB.of_drop 5 (by assumption) | exact ViewsB.of_drop 6 (by assumption) | exact ViewsB.of_drop 7 (by assumption) | exact ViewsB.of_drop 8 (by assumption) | exact ViewsB.of_drop 9 (by assumption) | exact ViewsB.of_drop 10 (by assumption) | exact ViewsB.of_drop 11 (by assumption) | exact ViewsB.of_drop 12 (by assumption)) (by omega) (by first | omega | (simp; done) | (simp; omega)))) rfl ?_
    clear h a w; intro a w h
    refine wv h (r_bin h rfl rfl (B.gtr_int)) rfl ?_
    clear h a w; intro a w h
    refine wnil (c_then ?_)
    first
      | refine c_condD h rfl (fun ht1 => ?_) (fun ht1 => ?_)
      | refine c_condP h rfl (by first | (simp only [Bool.and_eq_true, Bool.or_eq_true, Bool.not_eq_true', decide_eq_true_eq, decide_eq_false_iff_not, ne_eq, Bool.not_eq_eq_eq_not, Bool.not_true, beq_iff_eq, bne_iff_ne]; exact Iff.rfl) | exact Iff.rfl) (fun ht1 => ?_) (fun ht1 => ?_)
    ·
      refine c_skip ?_
      refine c_then ?_
      refine c_block ?_
      refine c_seq (c_region ?_)
      refine wv h (r_move h rfl) rfl ?_
      clear h a w; intro a w h
      refine wv h (r_move h rfl) rfl ?_
      clear h a w; intro a w h
      refine wl rfl (op_call h rfl K.go_delta_longest (delta_longest s _ bw qv base q _ hbc hqc h.2) rfl ?_)
      clear h a w; intro x a w hx h
      (try simp only [List.set_cons_zero, List.set_cons_succ] at h)
      refine wv h (r_move h rfl) rfl ?_
      clear h a w; intro a w h
      refine wv h (r_extractN h rfl rfl) rfl ?_
      clear h a w; intro a w h
      refine wv h (r_extractN h rfl rfl) rfl ?_
      clear h a w; intro a w h
      refine wv h (r_assign h rfl) rfl ?_
      clear h a w; intro a w h
      refine wv h (r_assign h rfl) rfl ?_
      clear h a w; intro a w h
      refine wnil (c_then ?_)
      refine c_seq ?_
      refine c_seq (c_region ?_)
      refine wv h (r_move h rfl) rfl ?_
      clear h a w; intro a w h
      refine wv h (r_bin h rfl rfl (B.lss_int)) rfl ?_
      clear h a w; intro a w h
      refine wnil (c_then ?_)
      first
        | refine c_condD h rfl (fun ht2 => ?_) (fun ht2 => ?_)
        | refine c_condP h rfl (by first | (simp only [Bool.and_eq_true, Bool.or_eq_true, Bool.not_eq_true', decide_eq_true_eq, decide_eq_false_iff_not, ne_eq, Bool.not_eq_eq_eq_not, Bool.not_true, beq_iff_eq, bne_iff_ne]; exact Iff.rfl) | exact Iff.rfl) (fun ht2 => ?_) (fun ht2 => ?_)
      ·
        have ho := makeA_one (t := t) (show 0 < q.length by omega) (show (longN base q).2 < 4 by omega)
        as_aux_lemma =>
          refine c_seq (c_drawn 16 K.mixed rfl h ?_)
          clear h a w; intro a w h
          have hD : Paid s w [] := Paid.nil
          refine d_take0 (listed' := #[true, false, false, false, false, false, false, false, false, false, false, false, false, false, false, false]) h hD 0 (by as_aux_lemma => kernel_rfl) rfl (by as_aux_lemma => kernel_rfl) (by as_aux_lemma => kernel_rfl) (by as_aux_lemma => kernel_rfl) (fun _ _ _ _ hh => hh) (fun w h => by first | exact r_move h rfl) rfl ?_
          clear hD h a w; intro a w h hD
          refine d_take0 (listed' := #[true, true, false, false, false, false, false, false, false, false, false, false, false, false, false, false]) h hD 1 (by as_aux_lemma => kernel_rfl) rfl (by as_aux_lemma => kernel_rfl) (by as_aux_lemma => kernel_rfl) (by as_aux_lemma => kernel_rfl) (fun _ _ _ _ hh => hh) (fun w h => by first | exact r_move h rfl) rfl ?_
          clear hD h a w; intro a w h hD
          refine d_take0 (listed' := #[true, true, true, false, false, false, false, false, false, false, false, false, false, false, false, false]) h hD 2 (by as_aux_lemma => kernel_rfl) rfl (by as_aux_lemma => kernel_rfl) (by as_aux_lemma => kernel_rfl) (by as_aux_lemma => kernel_rfl) (fun _ _ _ _ hh => hh) (fun w h => by first | exact r_nilCheck h rfl) rfl ?_
          clear hD h a w; intro a w h hD
          refine d_take0 (listed' := #[true, true, true, true, false, false, false, false, false, false, false, false, false, false, false, false]) h hD 3 (by as_aux_lemma => kernel_rfl) rfl (by as_aux_lemma => kernel_rfl) (by as_aux_lemma => kernel_rfl) (by as_aux_lemma => kernel_rfl) (fun _ _ _ _ hh => hh) (fun w h => by first | exact r_fieldAddr h 1 rfl K.u_delta_maker rfl K.sz_S_uint8 rfl rfl) rfl ?_
          clear hD h a w; intro a w h hD
          refine d_take (listed' := #[true, true, true, true, true, false, false, false, false, false, false, false, false, false, false, false]) h hD 4 ([MkF b vt]) (by as_aux_lemma => kernel_rfl) rfl (by as_aux_lemma => kernel_rfl) (by as_aux_lemma => kernel_rfl) (by as_aux_lemma => kernel_rfl) (fun _ _ _ _ hh => hh) (by first | exact MkF_of h.2 | exact MkF_of (h.2.drop 1) | exact MkF_of (h.2.drop 2) | exact h.2 | exact h.2.drop 1 | exact h.2.drop 2 | exact h.2.drop 3 | exact h.2.drop 4 | exact h.2.drop 5 | exact h.2.drop 6 | exact h.2.drop 7) (fun w hw => by first | exact match MkF_open hw /- Views -/ with | ⟨v0, hw⟩ => r_ldN ⟨h.1, hw⟩ rfl K.u_S_uint8 rfl 0 rfl rfl) rfl ?_
          clear hD h a w; intro a w h hD
          refine d_take0 (listed' := #[true, true, true, true, true, true, false, false, false, false, false, false, false, false, false, false]) h hD 5 (by as_aux_lemma => kernel_rfl) rfl (by as_aux_lemma => kernel_rfl) (by as_aux_lemma => kernel_rfl) (by as_aux_lemma => kernel_rfl) (fun _ _ _ _ hh => hh) (fun w h => by first | exact r_move h rfl) rfl ?_
          clear hD h a w; intro a w h hD
          refine d_take (listed' := #[true, true, true, true, true, true, true, false, false, false, false, false, false, false, false, false]) h hD 6 (F) (by as_aux_lemma => kernel_rfl) rfl (by as_aux_lemma => kernel_rfl) (by as_aux_lemma => kernel_rfl) (by as_aux_lemma => kernel_rfl) (fun _ _ _ _ hh => hh) (by first | exact MkF_of h.2 | exact MkF_of (h.2.drop 1) | exact MkF_of (h.2.drop 2) | exact h.2 | exact h.2.drop 1 | exact h.2.drop 2 | exact h.2.drop 3 | exact h.2.drop 4 | exact h.2.drop 5 | exact h.2.drop 6 | exact h.2.drop 7) (fun w hw => by first | exact r_elP ⟨h.1, hw⟩ rfl rfl K.u_S_uint8 K.sz_uint8 (by first | exact ViewsB.own 0 rfl | exact ViewsB.own 1 rfl | exact ViewsB.own 2 rfl | exact ViewsB.own 3 rfl | exact ViewsB.own 4 rfl | exact ViewsB.own 5 rfl | assumption | exact ViewsB.nil _ | exact ViewsB.arr 0 rfl (by first | assumption | rfl | (simp; done)) (Nat.le_refl _) (by simp [maxLen]) | exact ViewsB.arr 1 rfl (by first | assumption | rfl | (simp; done)) (Nat.le_refl _) (by simp [maxLen]) | exact ViewsB.arr 2 rfl (by first | assumption | rfl | (simp; done)) (Nat.le_refl _) (by simp [maxLen]) | exact ViewsB.arr 3 rfl (by first | assumption | rfl | (simp; done)) (Nat.le_refl _) (by simp [maxLen]) | exact ViewsB.arr 4 rfl (by first | assumption | rfl | (simp; done)) (Nat.le_refl _) (by simp [maxLen]) | exact ViewsB.of_drop 1 (by assumption) | exact ViewsB.of_drop 2 (by assumption) | exact ViewsB.of_drop 3 (by assumption) | exact ViewsB.of_drop 4 (by assumption) | exact ViewsB.of_drop 5 (by assumption) | exact ViewsB.of_drop 6 (by assumption) | exact ViewsB.of_drop 7 (by assumption) | exact ViewsB.of_drop 8 (by assumption) | exact ViewsB.of_drop 9 (by assumption) | exact ViewsB.of_drop 10 (by assumption) | exact ViewsB.of_drop 11 (by assumption) | exact ViewsB.of_drop 12 (by assumption) | exact ViewsB.sub (by first | exact ViewsB.own 0 rfl | exact ViewsB.own 1 rfl | exact ViewsB.own 2 rfl | exact ViewsB.own 3 rfl | exact ViewsB.own 4 rfl | exact ViewsB.own 5 rfl | assumption | exact ViewsB.nil _ | exact ViewsB.arr 0 rfl (by first | assumption | rfl | (simp; done)) (Nat.le_refl _) (by simp [maxLen]) | exact ViewsB.arr 1 rfl (by first | assumption | rfl | (simp; done)) (Nat.le_refl _) (by simp [maxLen]) | exact ViewsB.arr 2 rfl (by first | assumption | rfl | (simp; done)) (Nat.le_refl _) (by simp [maxLen]) | exact ViewsB.arr 3 rfl (by first | assumption | rfl | (simp; done)) (Nat.le_refl _) (by simp [maxLen]) | exact ViewsB.arr 4 rfl (by first | assumption | rfl | (simp; done)) (Nat.le_refl _) (by simp [maxLen]) | exact ViewsB.of_drop 1 (by assumption) | exact ViewsB.of_drop 2 (by assumption) | exact ViewsB.of_drop 3 (by assumption) | exact ViewsB.of_drop 4 (by assumption) | exact ViewsB.of_drop 5 (by assumption) | exact ViewsB.of_drop 6 (by assumption) | exact ViewsB.of_drop 7 (by assumption) | exact ViewsB.of_drop 8 (by assumption) | exact ViewsB.of_drop 9 (by assumption) | exact ViewsB.of_drop 10 (by assumption) | exact ViewsB.of_drop 11 (by assumption) | exact ViewsB.of_drop 12 (by assumption)) (by omega) (by first | omega | (simp; done) | (simp; omega))) (by first | omega | (simp; done)) (by first | omega | (simp only [List.length_cons, List.length_nil]; omega) | (simp; done) | (simp; omega))) rfl ?_
          clear hD h a w; intro a w h hD
          refine d_take (listed' := #[true, true, true, true, true, true, true, true, false, false, false, false, false, false, false, false]) h hD 7 (F) (by as_aux_lemma => kernel_rfl) rfl (by as_aux_lemma => kernel_rfl) (by as_aux_lemma => kernel_rfl) (by as_aux_lemma => kernel_rfl) (fun _ _ _ _ hh => hh) (by first | exact MkF_of h.2 | exact MkF_of (h.2.drop 1) | exact MkF_of (h.2.drop 2) | exact h.2 | exact h.2.drop 1 | exact h.2.drop 2 | exact h.2.drop 3 | exact h.2.drop 4 | exact h.2.drop 5 | exact h.2.drop 6 | exact h.2.drop 7) (fun w hw => by first | exact r_elb ⟨h.1, hw⟩ rfl K.u_uint8 rfl (by first | exact ViewsB.own 0 rfl | exact ViewsB.own 1 rfl | exact ViewsB.own 2 rfl | exact ViewsB.own 3 rfl | exact ViewsB.own 4 rfl | exact ViewsB.own 5 rfl | assumption | exact ViewsB.nil _ | exact ViewsB.arr 0 rfl (by first | assumption | rfl | (simp; done)) (Nat.le_refl _) (by simp [maxLen]) | exact ViewsB.arr 1 rfl (by first | assumption | rfl | (simp; done)) (Nat.le_refl _) (by simp [maxLen]) | exact ViewsB.arr 2 rfl (by first | assumption | rfl | (simp; done)) (Nat.le_refl _) (by simp [maxLen]) | exact ViewsB.arr 3 rfl (by first | assumption | rfl | (simp; done)) (Nat.le_refl _) (by simp [maxLen]) | exact ViewsB.arr 4 rfl (by first | assumption | rfl | (simp; done)) (Nat.le_refl _) (by simp [maxLen]) | exact ViewsB.of_drop 1 (by assumption) | exact ViewsB.of_drop 2 (by assumption) | exact ViewsB.of_drop 3 (by assumption) | exact ViewsB.of_drop 4 (by assumption) | exact ViewsB.of_drop 5 (by assumption) | exact ViewsB.of_drop 6 (by assumption) | exact ViewsB.of_drop 7 (by assumption) | exact ViewsB.of_drop 8 (by assumption) | exact ViewsB.of_drop 9 (by assumption) | exact ViewsB.of_drop 10 (by assumption) | exact ViewsB.of_drop 11 (by assumption) | exact ViewsB.of_drop 12 (by assumption) | exact ViewsB.sub (by first | exact ViewsB.own 0 rfl | exact ViewsB.own 1 rfl | exact ViewsB.own 2 rfl | exact ViewsB.own 3 rfl | exact ViewsB.own 4 rfl | exact ViewsB.own 5 rfl | assumption | exact ViewsB.nil _ | exact ViewsB.arr 0 rfl (by first | assumption | rfl | (simp; done)) (Nat.le_refl _) (by simp [maxLen]) | exact ViewsB.arr 1 rfl (by first | assumption | rfl | (simp; done)) (Nat.le_refl _) (by simp [maxLen]) | exact ViewsB.arr 2 rfl (by first | assumption | rfl | (simp; done)) (Nat.le_refl _) (by simp [maxLen]) | exact ViewsB.arr 3 rfl (by first | assumption | rfl | (simp; done)) (Nat.le_refl _) (by simp [maxLen]) | exact ViewsB.arr 4 rfl (by first | assumption | rfl | (simp; done)) (Nat.le_refl _) (by simp [maxLen]) | exact ViewsB.of_drop 1 (by assumption) | exact ViewsB.of_drop 2 (by assumption) | exact ViewsB.of_drop 3 (by assumption) | exact ViewsB.of_drop 4 (by assumption) | exact ViewsB.of_drop 5 (by assumption) | exact ViewsB.of_drop 6 (by assumption) | exact ViewsB.of_drop 7 (by assumption) | exact ViewsB.of_drop 8 (by assumption) | exact ViewsB.of_drop 9 (by assumption) | exact ViewsB.of_drop 10 (by assumption) | exact ViewsB.of_drop 11 (by assumption) | exact ViewsB.of_drop 12 (by assumption)) (by omega) (by first | omega | (simp; done) | (simp; omega))) (by first | omega | (simp only [List.length_cons, List.length_nil]; omega) | (simp; done) | (simp; omega))) rfl ?_
          clear hD h a w; intro a w h hD
          refine d_take0 (listed' := #[true, true, true, true, true, true, true, true, false, false, true, false, false, false, false, false]) h hD 10 (by as_aux_lemma => kernel_rfl) rfl (by as_aux_lemma => kernel_rfl) (by as_aux_lemma => kernel_rfl) (by as_aux_lemma => kernel_rfl) (fun _ _ _ _ hh => hh) (fun w h => by first | exact r_move h rfl) rfl ?_
          clear hD h a w; intro a w h hD
          refine d_take (listed' := #[true, true, true, true, true, true, true, true, false, false, true, true, false, false, false, false]) h hD 11 (F) (by as_aux_lemma => kernel_rfl) rfl (by as_aux_lemma => kernel_rfl) (by as_aux_lemma => kernel_rfl) (by as_aux_lemma => kernel_rfl) (fun _ _ _ _ hh => hh) (by first | exact MkF_of h.2 | exact MkF_of (h.2.drop 1) | exact MkF_of (h.2.drop 2) | exact h.2 | exact h.2.drop 1 | exact h.2.drop 2 | exact h.2.drop 3 | exact h.2.drop 4 | exact h.2.drop 5 | exact h.2.drop 6 | exact h.2.drop 7) (fun w hw => by first | exact r_sliceB /- Views -/ ⟨h.1, hw⟩ rfl K.u_S_uint8 K.sz_uint8 hq 1 q.length ⟨_, rfl⟩ rfl (by omega) (Nat.le_refl _)) rfl ?_
          clear hD h a w; intro a w h hD
          refine d_only (listed' := #[true, true, true, true, true, true, true, true, true, false, true, true, false, false, false, false]) 8 [true, false, true, true] (by as_aux_lemma => kernel_rfl) rfl rfl (by as_aux_lemma => kernel_rfl) (by as_aux_lemma => kernel_rfl) ?_
          refine op_buildSlice h K.u_S_uint8 K.sz_uint8 K.z_uint8 rfl rfl rfl rfl rfl (by simp [Value.cells, bv, w32, w64, sv]) rfl ?_
          clear hD h a w; intro b29 a w h
          refine d_pay (Paid.cons (by first | exact MkF_of h.2 | exact MkF_of (h.2.drop 1) | exact MkF_of (h.2.drop 2) | exact h.2 | exact h.2.drop 1 | exact h.2.drop 2 | exact h.2.drop 3 | exact h.2.drop 4 | exact h.2.drop 5 | exact h.2.drop 6 | exact h.2.drop 7) (Paid.cons (by first | exact MkF_of h.2 | exact MkF_of (h.2.drop 1) | exact MkF_of (h.2.drop 2) | exact h.2 | exact h.2.drop 1 | exact h.2.drop 2 | exact h.2.drop 3 | exact h.2.drop 4 | exact h.2.drop 5 | exact h.2.drop 6 | exact h.2.drop 7) (Paid.cons (by first | exact MkF_of h.2 | exact MkF_of (h.2.drop 1) | exact MkF_of (h.2.drop 2) | exact h.2 | exact h.2.drop 1 | exact h.2.drop 2 | exact h.2.drop 3 | exact h.2.drop 4 | exact h.2.drop 5 | exact h.2.drop 6 | exact h.2.drop 7) (Paid.nil)))) (fun hD => ?_)
          refine d_only (listed' := #[true, true, true, true, true, true, true, true, true, true, true, true, false, false, false, false]) 9 [true, true, false] (by as_aux_lemma => kernel_rfl) rfl rfl (by as_aux_lemma => kernel_rfl) (by as_aux_lemma => kernel_rfl) ?_
          first
            | (refine op_appendb h rfl rfl K.u_S_uint8 K.sz_uint8 K.z_uint8 rfl rfl 0 rfl (by first | omega | (simp only [List.length_cons, List.length_nil]; omega) | (simp; done) | (simp; omega)) rfl ?_)
            | (refine op_appendb h rfl rfl K.u_S_uint8 K.sz_uint8 K.z_uint8 rfl rfl 1 rfl (by first | omega | (simp only [List.length_cons, List.length_nil]; omega) | (simp; done) | (simp; omega)) rfl ?_)
            | (refine op_appendb h rfl rfl K.u_S_uint8 K.sz_uint8 K.z_uint8 rfl rfl 2 rfl (by first | omega | (simp only [List.length_cons, List.length_nil]; omega) | (simp; done) | (simp; omega)) rfl ?_)
            | (refine op_appendb h rfl rfl K.u_S_uint8 K.sz_uint8 K.z_uint8 rfl rfl 3 rfl (by first | omega | (simp only [List.length_cons, List.length_nil]; omega) | (simp; done) | (simp; omega)) rfl ?_)
            | (refine op_appendb h rfl rfl K.u_S_uint8 K.sz_uint8 K.z_uint8 rfl rfl 4 rfl (by first | omega | (simp only [List.length_cons, List.length_nil]; omega) | (simp; done) | (simp; omega)) rfl ?_)
            | (refine op_appendb h rfl rfl K.u_S_uint8 K.sz_uint8 K.z_uint8 rfl rfl 5 rfl (by first | omega | (simp only [List.length_cons, List.length_nil]; omega) | (simp; done) | (simp; omega)) rfl ?_)
          clear hD h a w; intro v30 a w h
          (try simp only [List.set_cons_zero, List.set_cons_succ] at h)
          refine d_pay (Paid.cons (by first | exact MkF_of h.2 | exact MkF_of (h.2.drop 1) | exact MkF_of (h.2.drop 2) | exact h.2 | exact h.2.drop 1 | exact h.2.drop 2 | exact h.2.drop 3 | exact h.2.drop 4 | exact h.2.drop 5 | exact h.2.drop 6 | exact h.2.drop 7) (Paid.cons (by first | exact MkF_of h.2 | exact MkF_of (h.2.drop 1) | exact MkF_of (h.2.drop 2) | exact h.2 | exact h.2.drop 1 | exact h.2.drop 2 | exact h.2.drop 3 | exact h.2.drop 4 | exact h.2.drop 5 | exact h.2.drop 6 | exact h.2.drop 7) (Paid.nil))) (fun hD => ?_)
          refine d_take0 (listed' := #[true, true, true, true, true, true, true, true, true, true, true, true, true, false, false, false]) h hD 12 (by as_aux_lemma => kernel_rfl) rfl (by as_aux_lemma => kernel_rfl) (by as_aux_lemma => kernel_rfl) (by as_aux_lemma => kernel_rfl) (fun _ _ _ _ hh => hh) (fun w h => by first | exact r_nilCheck h rfl) rfl ?_
          clear hD h a w; intro a w h hD
          refine d_take0 (listed' := #[true, true, true, true, true, true, true, true, true, true, true, true, true, true, false, false]) h hD 13 (by as_aux_lemma => kernel_rfl) rfl (by as_aux_lemma => kernel_rfl) (by as_aux_lemma => kernel_rfl) (by as_aux_lemma => kernel_rfl) (fun _ _ _ _ hh => hh) (fun w h => by first | exact r_fieldAddr h 1 rfl K.u_delta_maker rfl K.sz_S_uint8 rfl rfl) rfl ?_
          clear hD h a w; intro a w h hD
          refine d_only (listed' := #[true, true, true, true, true, true, true, true, true, true, true, true, true, true, true, false]) 14 [true, false] (by as_aux_lemma => kernel_rfl) rfl rfl (by as_aux_lemma => kernel_rfl) (by as_aux_lemma => kernel_rfl) ?_
          first
            | (refine op_storeN h rfl rfl K.sz_S_uint8 (by first | rfl | assumption | exact Views.oneCell (Views.own 0 rfl) h.2 | exact Views.oneCell (Views.own 1 rfl) h.2 | exact Views.oneCell (Views.own 2 rfl) h.2 | exact Views.oneCell (Views.own 3 rfl) h.2 | exact Views.oneCell (Views.own 4 rfl) h.2 | exact Views.oneCell (Views.own 5 rfl) h.2 | exact Views.oneCell (by assumption) h.2) 0 rfl rfl ?_)
            | (refine op_storeN h rfl rfl K.sz_S_uint8 (by first | rfl | assumption | exact Views.oneCell (Views.own 0 rfl) h.2 | exact Views.oneCell (Views.own 1 rfl) h.2 | exact Views.oneCell (Views.own 2 rfl) h.2 | exact Views.oneCell (Views.own 3 rfl) h.2 | exact Views.oneCell (Views.own 4 rfl) h.2 | exact Views.oneCell (Views.own 5 rfl) h.2 | exact Views.oneCell (by assumption) h.2) 1 rfl rfl ?_)
            | (refine op_storeN h rfl rfl K.sz_S_uint8 (by first | rfl | assumption | exact Views.oneCell (Views.own 0 rfl) h.2 | exact Views.oneCell (Views.own 1 rfl) h.2 | exact Views.oneCell (Views.own 2 rfl) h.2 | exact Views.oneCell (Views.own 3 rfl) h.2 | exact Views.oneCell (Views.own 4 rfl) h.2 | exact Views.oneCell (Views.own 5 rfl) h.2 | exact Views.oneCell (by assumption) h.2) 2 rfl rfl ?_)
            | (refine op_storeN h rfl rfl K.sz_S_uint8 (by first | rfl | assumption | exact Views.oneCell (Views.own 0 rfl) h.2 | exact Views.oneCell (Views.own 1 rfl) h.2 | exact Views.oneCell (Views.own 2 rfl) h.2 | exact Views.oneCell (Views.own 3 rfl) h.2 | exact Views.oneCell (Views.own 4 rfl) h.2 | exact Views.oneCell (Views.own 5 rfl) h.2 | exact Views.oneCell (by assumption) h.2) 3 rfl rfl ?_)
            | (refine op_storeN h rfl rfl K.sz_S_uint8 (by first | rfl | assumption | exact Views.oneCell (Views.own 0 rfl) h.2 | exact Views.oneCell (Views.own 1 rfl) h.2 | exact Views.oneCell (Views.own 2 rfl) h.2 | exact Views.oneCell (Views.own 3 rfl) h.2 | exact Views.oneCell (Views.own 4 rfl) h.2 | exact Views.oneCell (Views.own 5 rfl) h.2 | exact Views.oneCell (by assumption) h.2) 4 rfl rfl ?_)
            | (refine op_storeN h rfl rfl K.sz_S_uint8 (by first | rfl | assumption | exact Views.oneCell (Views.own 0 rfl) h.2 | exact Views.oneCell (Views.own 1 rfl) h.2 | exact Views.oneCell (Views.own 2 rfl) h.2 | exact Views.oneCell (Views.own 3 rfl) h.2 | exact Views.oneCell (Views.own 4 rfl) h.2 | exact Views.oneCell (Views.own 5 rfl) h.2 | exact Views.oneCell (by assumption) h.2) 5 rfl rfl ?_)
            | (refine op_storeN h rfl rfl K.sz_S_uint8 (by first | rfl | assumption | exact Views.oneCell (Views.own 0 rfl) h.2 | exact Views.oneCell (Views.own 1 rfl) h.2 | exact Views.oneCell (Views.own 2 rfl) h.2 | exact Views.oneCell (Views.own 3 rfl) h.2 | exact Views.oneCell (Views.own 4 rfl) h.2 | exact Views.oneCell (Views.own 5 rfl) h.2 | exact Views.oneCell (by assumption) h.2) 6 rfl rfl ?_)
            | (refine op_storeC (o := 1) h rfl rfl K.sz_S_uint8 (by first | rfl | assumption | exact Views.oneCell (Views.own 0 rfl) h.2 | exact Views.oneCell (Views.own 1 rfl) h.2 | exact Views.oneCell (Views.own 2 rfl) h.2 | exact Views.oneCell (Views.own 3 rfl) h.2 | exact Views.oneCell (Views.own 4 rfl) h.2 | exact Views.oneCell (Views.own 5 rfl) h.2 | exact Views.oneCell (by assumption) h.2) 0 rfl ?_)
            | (refine op_storeC (o := 1) h rfl rfl K.sz_S_uint8 (by first | rfl | assumption | exact Views.oneCell (Views.own 0 rfl) h.2 | exact Views.oneCell (Views.own 1 rfl) h.2 | exact Views.oneCell (Views.own 2 rfl) h.2 | exact Views.oneCell (Views.own 3 rfl) h.2 | exact Views.oneCell (Views.own 4 rfl) h.2 | exact Views.oneCell (Views.own 5 rfl) h.2 | exact Views.oneCell (by assumption) h.2) 1 rfl ?_)
            | (refine op_storeC (o := 1) h rfl rfl K.sz_S_uint8 (by first | rfl | assumption | exact Views.oneCell (Views.own 0 rfl) h.2 | exact Views.oneCell (Views.own 1 rfl) h.2 | exact Views.oneCell (Views.own 2 rfl) h.2 | exact Views.oneCell (Views.own 3 rfl) h.2 | exact Views.oneCell (Views.own 4 rfl) h.2 | exact Views.oneCell (Views.own 5 rfl) h.2 | exact Views.oneCell (by assumption) h.2) 2 rfl ?_)
            | (refine op_storeC (o := 1) h rfl rfl K.sz_S_uint8 (by first | rfl | assumption | exact Views.oneCell (Views.own 0 rfl) h.2 | exact Views.oneCell (Views.own 1 rfl) h.2 | exact Views.oneCell (Views.own 2 rfl) h.2 | exact Views.oneCell (Views.own 3 rfl) h.2 | exact Views.oneCell (Views.own 4 rfl) h.2 | exact Views.oneCell (Views.own 5 rfl) h.2 | exact Views.oneCell (by assumption) h.2) 3 rfl ?_)
            | (refine op_storeC (o := 1) h rfl rfl K.sz_S_uint8 (by first | rfl | assumption | exact Views.oneCell (Views.own 0 rfl) h.2 | exact Views.oneCell (Views.own 1 rfl) h.2 | exact Views.oneCell (Views.own 2 rfl) h.2 | exact Views.oneCell (Views.own 3 rfl) h.2 | exact Views.oneCell (Views.own 4 rfl) h.2 | exact Views.oneCell (Views.own 5 rfl) h.2 | exact Views.oneCell (by assumption) h.2) 4 rfl ?_)
            | (refine op_storeC (o := 1) h rfl rfl K.sz_S_uint8 (by first | rfl | assumption | exact Views.oneCell (Views.own 0 rfl) h.2 | exact Views.oneCell (Views.own 1 rfl) h.2 | exact Views.oneCell (Views.own 2 rfl) h.2 | exact Views.oneCell (Views.own 3 rfl) h.2 | exact Views.oneCell (Views.own 4 rfl) h.2 | exact Views.oneCell (Views.own 5 rfl) h.2 | exact Views.oneCell (by assumption) h.2) 5 rfl ?_)
            | (refine op_storeC (o := 1) h rfl rfl K.sz_S_uint8 (by first | rfl | assumption | exact Views.oneCell (Views.own 0 rfl) h.2 | exact Views.oneCell (Views.own 1 rfl) h.2 | exact Views.oneCell (Views.own 2 rfl) h.2 | exact Views.oneCell (Views.own 3 rfl) h.2 | exact Views.oneCell (Views.own 4 rfl) h.2 | exact Views.oneCell (Views.own 5 rfl) h.2 | exact Views.oneCell (by assumption) h.2) 6 rfl ?_)
          clear hD h a w; intro a w h
          (try simp only [List.set_cons_zero, List.set_cons_succ] at h)
          refine d_pay (Paid.cons (by first | exact MkF_of h.2 | exact MkF_of (h.2.drop 1) | exact MkF_of (h.2.drop 2) | exact h.2 | exact h.2.drop 1 | exact h.2.drop 2 | exact h.2.drop 3 | exact h.2.drop 4 | exact h.2.drop 5 | exact h.2.drop 6 | exact h.2.drop 7) (Paid.nil)) (fun hD => ?_)
          refine d_take0 (listed' := #[true, true, true, true, true, true, true, true, true, true, true, true, true, true, true, true]) h hD 15 (by as_aux_lemma => kernel_rfl) rfl (by as_aux_lemma => kernel_rfl) (by as_aux_lemma => kernel_rfl) (by as_aux_lemma => kernel_rfl) (fun _ _ _ _ hh => hh) (fun w h => by first | exact r_assign h rfl) rfl ?_
          clear hD h a w; intro a w h hD
          refine d_done (by kernel_rfl) ?_
          clear hD
          refine c_then ?_
          refine c_exit ?_
          refine e_then ?_
          refine e_here ?_
          refine ⟨(vp, v30, subV 1 qv 1 q.length, l, t ++ [q.getD 0 0], q.drop 1), h.keep [0, 1, 5], ⟨?_, by rw [← hx2, ho], by simp only [List.length_append, List.length_drop, List.length_singleton]; omega⟩, by show (q.drop 1).length < q.length; rw [List.length_drop]; omega⟩
          have := hq.sub (i := 1) (j := q.length) (by omega) (Nat.le_refl _)
          rwa [List.take_of_length_le (by simp)] at this
      ·
        have ho := makeA_long (t := t) (show ¬ (longN base q).2 < 4 by omega)
        have htl := tellN_le (t := t) (by omega)
        have hn1 := numN_len9 (2 * (longN base q).2 + 1) (by omega)
        have hn2 := numN_len9 (longN base q).1 (by omega)
        refine c_skip ?_
        refine c_then ?_
        refine c_seq (c_region ?_)
        refine wv h (r_move h rfl) rfl ?_
        clear h a w; intro a w h
        refine wl rfl (op_call h rfl K.go_delta_maker_tell (delta_tell s _ b vp vt l t _ (by omega) h.2) rfl ?_)
        clear h a w; intro v36 a w hx h
        (try simp only [List.set_cons_zero, List.set_cons_succ] at h)
        refine wnil (c_then ?_)
        refine c_seq (c_region ?_)
        refine wv h (r_move h rfl) rfl ?_
        clear h a w; intro a w h
        refine wv h (r_nilCheck h rfl) rfl ?_
        clear h a w; intro a w h
        refine wv h (r_fieldAddr0 h rfl K.u_delta_maker rfl K.sz_digit_Pen rfl rfl) rfl ?_
        clear h a w; intro a w h
        refine wv h (r_move h rfl) rfl ?_
        clear h a w; intro a w h
        refine wv h (r_bin h rfl rfl (B.mul_i64 (by omega) (by omega))) rfl ?_
        clear h a w; intro a w h
        refine wv h (r_bin h rfl rfl (B.add_i64 (by omega) (by omega))) rfl ?_
        clear h a w; intro a w h
        rw [show (2 : Int) * ((longN base q).2 : Int) + 1 = ((2 * (longN base q).2 + 1 : Nat) : Int) by omega] at h
        refine wl rfl (op_call h rfl K.go_digit_Pen_Num (pen_num s _ b 0 _ _ v36 _ (2 * (longN base q).2 + 1) _ (by omega) rfl (by simp only [List.length_append]; omega) h.2) rfl ?_)
        clear h a w; intro v43 a w hx h
        (try simp only [List.set_cons_zero, List.set_cons_succ] at h)
        refine wv h (r_move h rfl) rfl ?_
        clear h a w; intro a w h
        refine wl rfl (op_call h rfl K.go_digit_Pen_Num (pen_num s _ b 0 _ _ v43 _ (longN base q).1 _ (by omega) rfl (by simp only [List.length_append]; omega) h.2) rfl ?_)
        clear h a w; intro v45 a w hx h
        (try simp only [List.set_cons_zero, List.set_cons_succ] at h)
        refine wnil (c_then ?_)
        refine c_region ?_
        refine wv h (r_move h rfl) rfl ?_
        clear h a w; intro a w h
        refine wv h (r_move h rfl) rfl ?_
        clear h a w; intro a w h
        refine wv h (r_sliceB h rfl K.u_S_uint8 K.sz_uint8 (((hq.cons _).cons _).cons _) (longN base q).2 q.length ⟨_, rfl⟩ rfl (by omega) (Nat.le_refl _)) rfl ?_
        clear h a w; intro a w h
        refine wv h (r_assign h rfl) rfl ?_
        clear h a w; intro a w h
        refine wnil ?_
        refine b_normal ?_
        refine ⟨(v45, .slice none 0 0, subV 1 qv (longN base q).2 q.length, l ++ tellN t ++ numN (2 * (longN base q).2 + 1) ++ numN (longN base q).1, [], q.drop (longN base q).2), h.keep [0, 1, 5], ⟨?_, by rw [← hx2, ho]; simp only [List.append_assoc], by simp only [List.length_append, List.length_drop, List.length_nil]; omega⟩, by show (q.drop _).length < q.length; rw [List.length_drop]; omega⟩
        have := hq.sub (i := (longN base q).2) (j := q.length) (by omega) (Nat.le_refl _)
        rwa [List.take_of_length_le (by simp)] at this
    ·
      obtain rfl : q = [] := List.eq_nil_of_length_eq_zero (by omega)
      rw [makeA_nil] at hx2
      refine c_exit ?_
      refine e_then ?_
      refine e_then ?_
      refine e_here ?_
      refine c_then ?_
      refine c_seq (c_region ?_)
      refine wv h (r_move h rfl) rfl ?_
      clear h a w; intro a w h
      refine wl rfl (op_call h rfl K.go_delta_maker_tell (delta_tell s _ b vp vt l t _ (by omega) h.2) rfl ?_)
      clear h a w; intro v50 a w hx h
      (try simp only [List.set_cons_zero, List.set_cons_succ] at h)
      refine wnil (c_then ?_)
      refine c_seq (c_region ?_)
      refine wv h (r_move h rfl) rfl ?_
      clear h a w; intro a w h
      refine wv h (r_nilCheck h rfl) rfl ?_
      clear h a w; intro a w h
      refine wv h (r_fieldAddr0 h rfl K.u_delta_maker rfl K.sz_digit_Pen rfl rfl) rfl ?_
      clear h a w; intro a w h
      refine wv h (r_fieldAddr0 h rfl K.u_digit_Pen rfl K.sz_S_uint8 rfl rfl) rfl ?_
      clear h a w; intro a w h
      first
        | (refine wv h (r_ldN h rfl K.u_S_uint8 rfl 0 rfl rfl) rfl ?_)
        | (refine wv h (r_ldN h rfl K.u_S_uint8 rfl 1 rfl rfl) rfl ?_)
        | (refine wv h (r_ldN h rfl K.u_S_uint8 rfl 2 rfl rfl) rfl ?_)
        | (refine wv h (r_ldN h rfl K.u_S_uint8 rfl 3 rfl rfl) rfl ?_)
        | (refine wv h (r_ldN h rfl K.u_S_uint8 rfl 4 rfl rfl) rfl ?_)
        | (refine wv h (r_ldN h rfl K.u_S_uint8 rfl 5 rfl rfl) rfl ?_)
        | (refine wv h (r_ldN h rfl K.u_S_uint8 rfl 6 rfl rfl) rfl ?_)
        | (refine wv h (r_ldC (o := 0) h rfl K.u_S_uint8 rfl 0 rfl) rfl ?_)
        | (refine wv h (r_ldC (o := 0) h rfl K.u_S_uint8 rfl 1 rfl) rfl ?_)
        | (refine wv h (r_ldC (o := 0) h rfl K.u_S_uint8 rfl 2 rfl) rfl ?_)
        | (refine wv h (r_ldC (o := 0) h rfl K.u_S_uint8 rfl 3 rfl) rfl ?_)
        | (refine wv h (r_ldC (o := 0) h rfl K.u_S_uint8 rfl 4 rfl) rfl ?_)
        | (refine wv h (r_ldC (o := 0) h rfl K.u_S_uint8 rfl 5 rfl) rfl ?_)
        | (refine wv h (r_ldC (o := 0) h rfl K.u_S_uint8 rfl 6 rfl) rfl ?_)
        | (refine wv h (r_load h rfl K.u_S_uint8 rfl 0 rfl rfl) rfl ?_)
        | (refine wv h (r_load h rfl K.u_S_uint8 rfl 1 rfl rfl) rfl ?_)
        | (refine wv h (r_load h rfl K.u_S_uint8 rfl 2 rfl rfl) rfl ?_)
        | (refine wv h (r_load h rfl K.u_S_uint8 rfl 3 rfl rfl) rfl ?_)
        | (refine wv h (r_load h rfl K.u_S_uint8 rfl 4 rfl rfl) rfl ?_)
        | (refine wv h (r_load h rfl K.u_S_uint8 rfl 5 rfl rfl) rfl ?_)
        | (refine wv h (r_load1 h rfl K.u_S_uint8 rfl (by assumption)) rfl ?_)
      clear h a w; intro a w h
      refine wv h (r_assign h rfl) rfl ?_
      clear h a w; intro a w h
      refine wnil (c_then ?_)
      refine c_ret ?_
      rw [hx2] at h
      exact ret1 h rfl rfl ⟨v50, rfl, ((h.2.drop 1).perm (.swap _ _ _)).drop 1, trivial⟩
end Go.Proofs.K
