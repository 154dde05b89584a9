/- The contract of the maker's tell. -/
import Derived.Test.YtfaegieaicigcaaDelta
set_option linter.unusedVariables false
set_option linter.unusedSimpArgs false
set_option maxRecDepth 10000
set_option maxHeartbeats 2000000
namespace Go.Proofs.K
open Go.Sl
attribute [local irreducible] Go.Sl.Own Go.Sl.Blk Go.Sl.Sep Go.Sl.Ex Go.Sl.Fact

theorem tellN_nil : tellN [] = [] := rfl
theorem tellN_pos {t : List UInt8} (h : 0 < t.length) : tellN t = numN (2 * t.length) ++ t := by
  rw [tellN, if_neg]; rintro rfl; simp at h

def MkF (b : Nat) (vt : Value) : HItem := Ex fun v0 : Value => Blk b (.cells #[v0, vt] t_delta_maker)
theorem MkF_of {s w : World} {b : Nat} {v0 vt : Value} {R : List HItem} (h : Sat s w (Blk b (.cells #[v0, vt] t_delta_maker) :: R)) : Sat s w [MkF b vt] := by
  have h1 := (h.perm (List.perm_append_comm (l₁ := [_]) (l₂ := R))).drop R.length
  rw [List.drop_left] at h1
  exact Sat.ex v0 h1
theorem MkF_open {s w : World} {b : Nat} {vt : Value} (h : Sat s w [MkF b vt]) : ∃ v0, Sat s w [Blk b (.cells #[v0, vt] t_delta_maker)] := h.unex

theorem tell_end {s w : World} {N A B C : HItem} {F : List HItem} (h : Sat s w (N :: A :: B :: C :: F)) : Sat s w (A :: B :: N :: F) :=
  ((h.perm (List.perm_middle (l₁ := [N, A, B]))).drop 1).perm (List.perm_middle (l₁ := [A, B])).symm

theorem delta_tell (s w : World) (b : Nat) (vp vt : Value) (l t : List UInt8) (F : List HItem) (hl : l.length + t.length + 40 ≤ 4294967296) (hs : Sat s w (Blk b (.cells #[vp, vt] t_delta_maker) :: OwnB vp l :: OwnB vt t :: F)) :
    Calls P n_delta_maker_tell #[.pointer (some ⟨b, 0, none⟩)] w (Ret s (fun _ : Value => .tuple #[]) (fun v => Blk b (.cells #[v, .slice none 0 0] t_delta_maker) :: OwnB v (l ++ tellN t) :: OwnB (.slice none 0 0) [] :: F) (fun _ => True)) := by
  have hnl := numN_len9 (2 * t.length) (by omega)
  refine enter K.fn_delta_maker_tell rfl K.nt_delta_maker_tell rfl hs ?_
  clear hs w; intro a w h
  refine c_seq ?_
  refine c_seq (c_region ?_)
  refine wv h (r_move h rfl) rfl ?_
  clear h a w; intro a w h
  refine wv h (r_nilCheck h rfl) rfl ?_
  clear h a w; intro a w h
  refine wv h (r_fieldAddr h 1 rfl K.u_delta_maker rfl K.sz_S_uint8 rfl rfl) rfl ?_
  clear h a w; intro a w h
  first
    | (refine wv h (r_ldN h rfl K.u_S_uint8 rfl 0 rfl rfl) rfl ?_)
    | (refine wv h (r_ldN h rfl K.u_S_uint8 rfl 1 rfl rfl) rfl ?_)
    | (refine wv h (r_ldN h rfl K.u_S_uint8 rfl 2 rfl rfl) rfl ?_)
    | (refine wv h (r_ldN h rfl K.u_S_uint8 rfl 3 rfl rfl) rfl ?_)
    | (refine wv h (r_ldN h rfl K.u_S_uint8 rfl 4 rfl rfl) rfl ?_)
    | (refine wv h (r_ldN h rfl K.u_S_uint8 rfl 5 rfl rfl) rfl ?_)
    | (refine wv h (r_ldN h rfl K.u_S_uint8 rfl 6 rfl rfl) rfl ?_)
    | (refine wv h (r_ldC (o := 1) h rfl K.u_S_uint8 rfl 0 rfl) rfl ?_)
    | (refine wv h (r_ldC (o := 1) h rfl K.u_S_uint8 rfl 1 rfl) rfl ?_)
    | (refine wv h (r_ldC (o := 1) h rfl K.u_S_uint8 rfl 2 rfl) rfl ?_)
    | (refine wv h (r_ldC (o := 1) h rfl K.u_S_uint8 rfl 3 rfl) rfl ?_)
    | (refine wv h (r_ldC (o := 1) h rfl K.u_S_uint8 rfl 4 rfl) rfl ?_)
    | (refine wv h (r_ldC (o := 1) h rfl K.u_S_uint8 rfl 5 rfl) rfl ?_)
    | (refine wv h (r_ldC (o := 1) h rfl K.u_S_uint8 rfl 6 rfl) rfl ?_)
    | (refine wv h (r_load h rfl K.u_S_uint8 rfl 0 rfl rfl) rfl ?_)
    | (refine wv h (r_load h rfl K.u_S_uint8 rfl 1 rfl rfl) rfl ?_)
    | (refine wv h (r_load h rfl K.u_S_uint8 rfl 2 rfl rfl) rfl ?_)
    | (refine wv h (r_load h rfl K.u_S_uint8 rfl 3 rfl rfl) rfl ?_)
    | (refine wv h (r_load h rfl K.u_S_uint8 rfl 4 rfl rfl) rfl ?_)
    | (refine wv h (r_load h rfl K.u_S_uint8 rfl 5 rfl rfl) rfl ?_)
    | (refine wv h (r_load1 h rfl K.u_S_uint8 rfl (by assumption)) rfl ?_)
  clear h a w; intro a w h
  refine wv h (r_lenB h rfl K.u_S_uint8 (by first | exact ViewsB.own 0 rfl | exact ViewsB.own 1 rfl | exact ViewsB.own 2 rfl | exact ViewsB.own 3 rfl | exact ViewsB.own 4 rfl | exact ViewsB.own 5 rfl | assumption | exact ViewsB.nil _ | exact ViewsB.arr 0 rfl (by first | assumption | rfl | (simp; done)) (Nat.le_refl _) (by simp [maxLen]) | exact ViewsB.arr 1 rfl (by first | assumption | rfl | (simp; done)) (Nat.le_refl _) (by simp [maxLen]) | exact ViewsB.arr 2 rfl (by first | assumption | rfl | (simp; done)) (Nat.le_refl _) (by simp [maxLen]) | exact ViewsB.arr 3 rfl (by first | assumption | rfl | (simp; done)) (Nat.le_refl _) (by simp [maxLen]) | exact ViewsB.arr 4 rfl (by first | assumption | rfl | (simp; done)) (Nat.le_refl _) (by simp [maxLen]) | exact ViewsB.of_drop 1 (by assumption) | exact ViewsB.of_drop 2 (by assumption) | exact ViewsB.of_drop 3 (by assumption) | exact ViewsB.of_drop 4 (by assumption) | exact ViewsB.of_drop 5 (by assumption) | exact ViewsB.of_drop 6 (by assumption) | exact ViewsB.of_drop 7 (by assumption) | exact ViewsB.of_drop 8 (by assumption) | exact ViewsB.of_drop 9 (by assumption) | exact ViewsB.of_drop 10 (by assumption) | exact ViewsB.of_drop 11 (by assumption) | exact ViewsB.of_drop 12 (by assumption) | exact ViewsB.sub (by first | exact ViewsB.own 0 rfl | exact ViewsB.own 1 rfl | exact ViewsB.own 2 rfl | exact ViewsB.own 3 rfl | exact ViewsB.own 4 rfl | exact ViewsB.own 5 rfl | assumption | exact ViewsB.nil _ | exact ViewsB.arr 0 rfl (by first | assumption | rfl | (simp; done)) (Nat.le_refl _) (by simp [maxLen]) | exact ViewsB.arr 1 rfl (by first | assumption | rfl | (simp; done)) (Nat.le_refl _) (by simp [maxLen]) | exact ViewsB.arr 2 rfl (by first | assumption | rfl | (simp; done)) (Nat.le_refl _) (by simp [maxLen]) | exact ViewsB.arr 3 rfl (by first | assumption | rfl | (simp; done)) (Nat.le_refl _) (by simp [maxLen]) | exact ViewsB.arr 4 rfl (by first | assumption | rfl | (simp; done)) (Nat.le_refl _) (by simp [maxLen]) | exact ViewsB.of_drop 1 (by assumption) | exact ViewsB.of_drop 2 (by assumption) | exact ViewsB.of_drop 3 (by assumption) | exact ViewsB.of_drop 4 (by assumption) | exact ViewsB.of_drop 5 (by assumption) | exact ViewsB.of_drop 6 (by assumption) | exact ViewsB.of_drop 7 (by assumption) | exact ViewsB.of_drop 8 (by assumption) | exact ViewsB.of_drop 9 (by assumption) | exact ViewsB.of_drop 10 (by assumption) | exact ViewsB.of_drop 11 (by assumption) | exact ViewsB.of_drop 12 (by assumption)) (by omega) (by first | omega | (simp; done) | (simp; omega)))) rfl ?_
  clear h a w; intro a w h
  refine wv h (r_bin h rfl rfl (B.gtr_int)) rfl ?_
  clear h a w; intro a w h
  refine wnil (c_then ?_)
  first
    | refine c_condD h rfl (fun ht1 => ?_) (fun ht1 => ?_)
    | refine c_condP h rfl (by first | (simp only [Bool.and_eq_true, Bool.or_eq_true, Bool.not_eq_true', decide_eq_true_eq, decide_eq_false_iff_not, ne_eq, Bool.not_eq_eq_eq_not, Bool.not_true, beq_iff_eq, bne_iff_ne]; exact Iff.rfl) | exact Iff.rfl) (fun ht1 => ?_) (fun ht1 => ?_)
  ·
    have ht0 := tellN_pos (t := t) (by omega)
    as_aux_lemma =>
      refine c_drawn 15 K.mixed rfl h ?_
      clear h a w; intro a w h
      have hD : Paid s w [] := Paid.nil
      refine d_take0 (listed' := #[true, false, false, false, false, false, false, false, false, false, false, false, false, false, false]) h hD 0 (by as_aux_lemma => kernel_rfl) rfl (by as_aux_lemma => kernel_rfl) (by as_aux_lemma => kernel_rfl) (by as_aux_lemma => kernel_rfl) (fun _ _ _ _ hh => hh) (fun w h => by first | exact r_move h rfl) rfl ?_
      clear hD h a w; intro a w h hD
      refine d_take0 (listed' := #[true, true, false, false, false, false, false, false, false, false, false, false, false, false, false]) h hD 1 (by as_aux_lemma => kernel_rfl) rfl (by as_aux_lemma => kernel_rfl) (by as_aux_lemma => kernel_rfl) (by as_aux_lemma => kernel_rfl) (fun _ _ _ _ hh => hh) (fun w h => by first | exact r_nilCheck h rfl) rfl ?_
      clear hD h a w; intro a w h hD
      refine d_take0 (listed' := #[true, true, true, false, false, false, false, false, false, false, false, false, false, false, false]) h hD 2 (by as_aux_lemma => kernel_rfl) rfl (by as_aux_lemma => kernel_rfl) (by as_aux_lemma => kernel_rfl) (by as_aux_lemma => kernel_rfl) (fun _ _ _ _ hh => hh) (fun w h => by first | exact r_fieldAddr0 h rfl K.u_delta_maker rfl K.sz_digit_Pen rfl rfl) rfl ?_
      clear hD h a w; intro a w h hD
      refine d_take0 (listed' := #[true, true, true, true, false, false, false, false, false, false, false, false, false, false, false]) h hD 3 (by as_aux_lemma => kernel_rfl) rfl (by as_aux_lemma => kernel_rfl) (by as_aux_lemma => kernel_rfl) (by as_aux_lemma => kernel_rfl) (fun _ _ _ _ hh => hh) (fun w h => by first | exact r_move h rfl) rfl ?_
      clear hD h a w; intro a w h hD
      refine d_take0 (listed' := #[true, true, true, true, true, false, false, false, false, false, false, false, false, false, false]) h hD 4 (by as_aux_lemma => kernel_rfl) rfl (by as_aux_lemma => kernel_rfl) (by as_aux_lemma => kernel_rfl) (by as_aux_lemma => kernel_rfl) (fun _ _ _ _ hh => hh) (fun w h => by first | exact r_nilCheck h rfl) rfl ?_
      clear hD h a w; intro a w h hD
      refine d_take0 (listed' := #[true, true, true, true, true, true, false, false, false, false, false, false, false, false, false]) h hD 5 (by as_aux_lemma => kernel_rfl) rfl (by as_aux_lemma => kernel_rfl) (by as_aux_lemma => kernel_rfl) (by as_aux_lemma => kernel_rfl) (fun _ _ _ _ hh => hh) (fun w h => by first | exact r_fieldAddr h 1 rfl K.u_delta_maker rfl K.sz_S_uint8 rfl rfl) rfl ?_
      clear hD h a w; intro a w h hD
      refine d_take (listed' := #[true, true, true, true, true, true, true, false, false, false, false, false, false, false, false]) h hD 6 ([MkF b vt]) (by as_aux_lemma => kernel_rfl) rfl (by as_aux_lemma => kernel_rfl) (by as_aux_lemma => kernel_rfl) (by as_aux_lemma => kernel_rfl) (fun _ _ _ _ hh => hh) (by first | exact MkF_of h.2 | exact h.2 | exact h.2.drop 1 | exact h.2.drop 2 | exact h.2.drop 3 | exact h.2.drop 4 | exact h.2.drop 5 | exact h.2.drop 6 | exact h.2.drop 7) (fun w hw => by first | exact match MkF_open hw /- Views -/ with | ⟨v0, hw⟩ => r_ldN ⟨h.1, hw⟩ rfl K.u_S_uint8 rfl 0 rfl rfl) rfl ?_
      clear hD h a w; intro a w h hD
      refine d_take (listed' := #[true, true, true, true, true, true, true, true, false, false, false, false, false, false, false]) h hD 7 (OwnB vt t :: F) (by as_aux_lemma => kernel_rfl) rfl (by as_aux_lemma => kernel_rfl) (by as_aux_lemma => kernel_rfl) (by as_aux_lemma => kernel_rfl) (fun _ _ _ _ hh => hh) (by first | exact MkF_of h.2 | exact h.2 | exact h.2.drop 1 | exact h.2.drop 2 | exact h.2.drop 3 | exact h.2.drop 4 | exact h.2.drop 5 | exact h.2.drop 6 | exact h.2.drop 7) (fun w hw => by first | exact r_lenB ⟨h.1, hw⟩ rfl K.u_S_uint8 (by first | exact ViewsB.own 0 rfl | exact ViewsB.own 1 rfl | exact ViewsB.own 2 rfl | exact ViewsB.own 3 rfl | exact ViewsB.own 4 rfl | exact ViewsB.own 5 rfl | assumption | exact ViewsB.nil _ | exact ViewsB.arr 0 rfl (by first | assumption | rfl | (simp; done)) (Nat.le_refl _) (by simp [maxLen]) | exact ViewsB.arr 1 rfl (by first | assumption | rfl | (simp; done)) (Nat.le_refl _) (by simp [maxLen]) | exact ViewsB.arr 2 rfl (by first | assumption | rfl | (simp; done)) (Nat.le_refl _) (by simp [maxLen]) | exact ViewsB.arr 3 rfl (by first | assumption | rfl | (simp; done)) (Nat.le_refl _) (by simp [maxLen]) | exact ViewsB.arr 4 rfl (by first | assumption | rfl | (simp; done)) (Nat.le_refl _) (by simp [maxLen]) | exact ViewsB.of_drop 1 (by assumption) | exact ViewsB.of_drop 2 (by assumption) | exact ViewsB.of_drop 3 (by assumption) | exact ViewsB.of_drop 4 (by assumption) | exact ViewsB.of_drop 5 (by assumption) | exact ViewsB.of_drop 6 (by assumption) | exact ViewsB.of_drop 7 (by assumption) | exact ViewsB.of_drop 8 (by assumption) | exact ViewsB.of_drop 9 (by assumption) | exact ViewsB.of_drop 10 (by assumption) | exact ViewsB.of_drop 11 (by assumption) | exact ViewsB.of_drop 12 (by assumption) | exact ViewsB.sub (by first | exact ViewsB.own 0 rfl | exact ViewsB.own 1 rfl | exact ViewsB.own 2 rfl | exact ViewsB.own 3 rfl | exact ViewsB.own 4 rfl | exact ViewsB.own 5 rfl | assumption | exact ViewsB.nil _ | exact ViewsB.arr 0 rfl (by first | assumption | rfl | (simp; done)) (Nat.le_refl _) (by simp [maxLen]) | exact ViewsB.arr 1 rfl (by first | assumption | rfl | (simp; done)) (Nat.le_refl _) (by simp [maxLen]) | exact ViewsB.arr 2 rfl (by first | assumption | rfl | (simp; done)) (Nat.le_refl _) (by simp [maxLen]) | exact ViewsB.arr 3 rfl (by first | assumption | rfl | (simp; done)) (Nat.le_refl _) (by simp [maxLen]) | exact ViewsB.arr 4 rfl (by first | assumption | rfl | (simp; done)) (Nat.le_refl _) (by simp [maxLen]) | exact ViewsB.of_drop 1 (by assumption) | exact ViewsB.of_drop 2 (by assumption) | exact ViewsB.of_drop 3 (by assumption) | exact ViewsB.of_drop 4 (by assumption) | exact ViewsB.of_drop 5 (by assumption) | exact ViewsB.of_drop 6 (by assumption) | exact ViewsB.of_drop 7 (by assumption) | exact ViewsB.of_drop 8 (by assumption) | exact ViewsB.of_drop 9 (by assumption) | exact ViewsB.of_drop 10 (by assumption) | exact ViewsB.of_drop 11 (by assumption) | exact ViewsB.of_drop 12 (by assumption)) (by omega) (by first | omega | (simp; done) | (simp; omega)))) rfl ?_
      clear hD h a w; intro a w h hD
      refine d_take0 (listed' := #[true, true, true, true, true, true, true, true, true, false, false, false, false, false, false]) h hD 8 (by as_aux_lemma => kernel_rfl) rfl (by as_aux_lemma => kernel_rfl) (by as_aux_lemma => kernel_rfl) (by as_aux_lemma => kernel_rfl) (fun _ _ _ _ hh => hh) (fun w h => by first | exact r_bin h rfl rfl (B.mul_i64 (by omega) (by omega))) rfl ?_
      clear hD h a w; intro a w h hD
      rw [show (2 : Int) * (t.length : Int) = ((2 * t.length : Nat) : Int) by omega] at h
      refine d_take0 (listed' := #[true, true, true, true, true, true, true, true, true, false, true, false, false, false, false]) h hD 10 (by as_aux_lemma => kernel_rfl) rfl (by as_aux_lemma => kernel_rfl) (by as_aux_lemma => kernel_rfl) (by as_aux_lemma => kernel_rfl) (fun _ _ _ _ hh => hh) (fun w h => by first | exact r_move h rfl) rfl ?_
      clear hD h a w; intro a w h hD
      refine d_take0 (listed' := #[true, true, true, true, true, true, true, true, true, false, true, true, false, false, false]) h hD 11 (by as_aux_lemma => kernel_rfl) rfl (by as_aux_lemma => kernel_rfl) (by as_aux_lemma => kernel_rfl) (by as_aux_lemma => kernel_rfl) (fun _ _ _ _ hh => hh) (fun w h => by first | exact r_nilCheck h rfl) rfl ?_
      clear hD h a w; intro a w h hD
      refine d_take0 (listed' := #[true, true, true, true, true, true, true, true, true, false, true, true, true, false, false]) h hD 12 (by as_aux_lemma => kernel_rfl) rfl (by as_aux_lemma => kernel_rfl) (by as_aux_lemma => kernel_rfl) (by as_aux_lemma => kernel_rfl) (fun _ _ _ _ hh => hh) (fun w h => by first | exact r_fieldAddr h 1 rfl K.u_delta_maker rfl K.sz_S_uint8 rfl rfl) rfl ?_
      clear hD h a w; intro a w h hD
      refine d_take (listed' := #[true, true, true, true, true, true, true, true, true, false, true, true, true, true, false]) h hD 13 ([MkF b vt]) (by as_aux_lemma => kernel_rfl) rfl (by as_aux_lemma => kernel_rfl) (by as_aux_lemma => kernel_rfl) (by as_aux_lemma => kernel_rfl) (fun _ _ _ _ hh => hh) (by first | exact MkF_of h.2 | exact h.2 | exact h.2.drop 1 | exact h.2.drop 2 | exact h.2.drop 3 | exact h.2.drop 4 | exact h.2.drop 5 | exact h.2.drop 6 | exact h.2.drop 7) (fun w hw => by first | exact match MkF_open hw /- Views -/ with | ⟨v0, hw⟩ => r_ldN ⟨h.1, hw⟩ rfl K.u_S_uint8 rfl 0 rfl rfl) rfl ?_
      clear hD h a w; intro a w h hD
      refine d_only (listed' := #[true, true, true, true, true, true, true, true, true, true, true, true, true, true, false]) 9 [true, true, true] (by as_aux_lemma => kernel_rfl) rfl rfl (by as_aux_lemma => kernel_rfl) (by as_aux_lemma => kernel_rfl) ?_
      refine op_call h rfl K.go_digit_Pen_Num (pen_num s _ b 0 _ _ vp l (2 * t.length) _ (by omega) rfl (by omega) h.2) rfl ?_
      clear hD h a w; intro v17 a w hx h
      (try simp only [List.set_cons_zero, List.set_cons_succ] at h)
      rw [show (#[vp, vt] : Array Value).setIfInBounds 0 v17 = #[v17, vt] from rfl] at h
      refine d_pay (Paid.cons (by first | exact MkF_of h.2 | exact h.2 | exact h.2.drop 1 | exact h.2.drop 2 | exact h.2.drop 3 | exact h.2.drop 4 | exact h.2.drop 5 | exact h.2.drop 6 | exact h.2.drop 7) (Paid.cons (by first | exact MkF_of h.2 | exact h.2 | exact h.2.drop 1 | exact h.2.drop 2 | exact h.2.drop 3 | exact h.2.drop 4 | exact h.2.drop 5 | exact h.2.drop 6 | exact h.2.drop 7) (Paid.cons (by first | exact MkF_of h.2 | exact h.2 | exact h.2.drop 1 | exact h.2.drop 2 | exact h.2.drop 3 | exact h.2.drop 4 | exact h.2.drop 5 | exact h.2.drop 6 | exact h.2.drop 7) (Paid.nil)))) (fun hD => ?_)
      refine d_only (listed' := #[true, true, true, true, true, true, true, true, true, true, true, true, true, true, true]) 14 [false, true, true] (by as_aux_lemma => kernel_rfl) rfl rfl (by as_aux_lemma => kernel_rfl) (by as_aux_lemma => kernel_rfl) ?_
      refine op_call h rfl K.go_digit_Pen_Raw (pen_raw s _ b 0 _ _ _ vt _ t _ rfl (by simp only [List.length_append]; omega) (ViewsB.own 0 rfl) h.2) rfl ?_
      clear hD h a w; intro v22 a w hx h
      (try simp only [List.set_cons_zero, List.set_cons_succ] at h)
      rw [show (#[v17, vt] : Array Value).setIfInBounds 0 v22 = #[v22, vt] from rfl] at h
      refine d_pay (Paid.cons (by first | exact MkF_of h.2 | exact h.2 | exact h.2.drop 1 | exact h.2.drop 2 | exact h.2.drop 3 | exact h.2.drop 4 | exact h.2.drop 5 | exact h.2.drop 6 | exact h.2.drop 7) (Paid.cons (by first | exact MkF_of h.2 | exact h.2 | exact h.2.drop 1 | exact h.2.drop 2 | exact h.2.drop 3 | exact h.2.drop 4 | exact h.2.drop 5 | exact h.2.drop 6 | exact h.2.drop 7) (Paid.nil))) (fun hD => ?_)
      refine d_done (by kernel_rfl) ?_
      clear hD
      refine c_then ?_
      refine c_region ?_
      refine wv h (r_move h rfl) rfl ?_
      clear h a w; intro a w h
      refine wv h (r_nilCheck h rfl) rfl ?_
      clear h a w; intro a w h
      refine wv h (r_fieldAddr h 1 rfl K.u_delta_maker rfl K.sz_S_uint8 rfl rfl) rfl ?_
      clear h a w; intro a w h
      first
        | (refine wl rfl (op_storeN h rfl rfl K.sz_S_uint8 (by first | rfl | assumption | exact Views.oneCell (Views.own 0 rfl) h.2 | exact Views.oneCell (Views.own 1 rfl) h.2 | exact Views.oneCell (Views.own 2 rfl) h.2 | exact Views.oneCell (Views.own 3 rfl) h.2 | exact Views.oneCell (Views.own 4 rfl) h.2 | exact Views.oneCell (Views.own 5 rfl) h.2 | exact Views.oneCell (by assumption) h.2) 0 rfl rfl ?_))
        | (refine wl rfl (op_storeN h rfl rfl K.sz_S_uint8 (by first | rfl | assumption | exact Views.oneCell (Views.own 0 rfl) h.2 | exact Views.oneCell (Views.own 1 rfl) h.2 | exact Views.oneCell (Views.own 2 rfl) h.2 | exact Views.oneCell (Views.own 3 rfl) h.2 | exact Views.oneCell (Views.own 4 rfl) h.2 | exact Views.oneCell (Views.own 5 rfl) h.2 | exact Views.oneCell (by assumption) h.2) 1 rfl rfl ?_))
        | (refine wl rfl (op_storeN h rfl rfl K.sz_S_uint8 (by first | rfl | assumption | exact Views.oneCell (Views.own 0 rfl) h.2 | exact Views.oneCell (Views.own 1 rfl) h.2 | exact Views.oneCell (Views.own 2 rfl) h.2 | exact Views.oneCell (Views.own 3 rfl) h.2 | exact Views.oneCell (Views.own 4 rfl) h.2 | exact Views.oneCell (Views.own 5 rfl) h.2 | exact Views.oneCell (by assumption) h.2) 2 rfl rfl ?_))
        | (refine wl rfl (op_storeN h rfl rfl K.sz_S_uint8 (by first | rfl | assumption | exact Views.oneCell (Views.own 0 rfl) h.2 | exact Views.oneCell (Views.own 1 rfl) h.2 | exact Views.oneCell (Views.own 2 rfl) h.2 | exact Views.oneCell (Views.own 3 rfl) h.2 | exact Views.oneCell (Views.own 4 rfl) h.2 | exact Views.oneCell (Views.own 5 rfl) h.2 | exact Views.oneCell (by assumption) h.2) 3 rfl rfl ?_))
        | (refine wl rfl (op_storeN h rfl rfl K.sz_S_uint8 (by first | rfl | assumption | exact Views.oneCell (Views.own 0 rfl) h.2 | exact Views.oneCell (Views.own 1 rfl) h.2 | exact Views.oneCell (Views.own 2 rfl) h.2 | exact Views.oneCell (Views.own 3 rfl) h.2 | exact Views.oneCell (Views.own 4 rfl) h.2 | exact Views.oneCell (Views.own 5 rfl) h.2 | exact Views.oneCell (by assumption) h.2) 4 rfl rfl ?_))
        | (refine wl rfl (op_storeN h rfl rfl K.sz_S_uint8 (by first | rfl | assumption | exact Views.oneCell (Views.own 0 rfl) h.2 | exact Views.oneCell (Views.own 1 rfl) h.2 | exact Views.oneCell (Views.own 2 rfl) h.2 | exact Views.oneCell (Views.own 3 rfl) h.2 | exact Views.oneCell (Views.own 4 rfl) h.2 | exact Views.oneCell (Views.own 5 rfl) h.2 | exact Views.oneCell (by assumption) h.2) 5 rfl rfl ?_))
        | (refine wl rfl (op_storeN h rfl rfl K.sz_S_uint8 (by first | rfl | assumption | exact Views.oneCell (Views.own 0 rfl) h.2 | exact Views.oneCell (Views.own 1 rfl) h.2 | exact Views.oneCell (Views.own 2 rfl) h.2 | exact Views.oneCell (Views.own 3 rfl) h.2 | exact Views.oneCell (Views.own 4 rfl) h.2 | exact Views.oneCell (Views.own 5 rfl) h.2 | exact Views.oneCell (by assumption) h.2) 6 rfl rfl ?_))
        | (refine wl rfl (op_storeC (o := 1) h rfl rfl K.sz_S_uint8 (by first | rfl | assumption | exact Views.oneCell (Views.own 0 rfl) h.2 | exact Views.oneCell (Views.own 1 rfl) h.2 | exact Views.oneCell (Views.own 2 rfl) h.2 | exact Views.oneCell (Views.own 3 rfl) h.2 | exact Views.oneCell (Views.own 4 rfl) h.2 | exact Views.oneCell (Views.own 5 rfl) h.2 | exact Views.oneCell (by assumption) h.2) 0 rfl ?_))
        | (refine wl rfl (op_storeC (o := 1) h rfl rfl K.sz_S_uint8 (by first | rfl | assumption | exact Views.oneCell (Views.own 0 rfl) h.2 | exact Views.oneCell (Views.own 1 rfl) h.2 | exact Views.oneCell (Views.own 2 rfl) h.2 | exact Views.oneCell (Views.own 3 rfl) h.2 | exact Views.oneCell (Views.own 4 rfl) h.2 | exact Views.oneCell (Views.own 5 rfl) h.2 | exact Views.oneCell (by assumption) h.2) 1 rfl ?_))
        | (refine wl rfl (op_storeC (o := 1) h rfl rfl K.sz_S_uint8 (by first | rfl | assumption | exact Views.oneCell (Views.own 0 rfl) h.2 | exact Views.oneCell (Views.own 1 rfl) h.2 | exact Views.oneCell (Views.own 2 rfl) h.2 | exact Views.oneCell (Views.own 3 rfl) h.2 | exact Views.oneCell (Views.own 4 rfl) h.2 | exact Views.oneCell (Views.own 5 rfl) h.2 | exact Views.oneCell (by assumption) h.2) 2 rfl ?_))
        | (refine wl rfl (op_storeC (o := 1) h rfl rfl K.sz_S_uint8 (by first | rfl | assumption | exact Views.oneCell (Views.own 0 rfl) h.2 | exact Views.oneCell (Views.own 1 rfl) h.2 | exact Views.oneCell (Views.own 2 rfl) h.2 | exact Views.oneCell (Views.own 3 rfl) h.2 | exact Views.oneCell (Views.own 4 rfl) h.2 | exact Views.oneCell (Views.own 5 rfl) h.2 | exact Views.oneCell (by assumption) h.2) 3 rfl ?_))
        | (refine wl rfl (op_storeC (o := 1) h rfl rfl K.sz_S_uint8 (by first | rfl | assumption | exact Views.oneCell (Views.own 0 rfl) h.2 | exact Views.oneCell (Views.own 1 rfl) h.2 | exact Views.oneCell (Views.own 2 rfl) h.2 | exact Views.oneCell (Views.own 3 rfl) h.2 | exact Views.oneCell (Views.own 4 rfl) h.2 | exact Views.oneCell (Views.own 5 rfl) h.2 | exact Views.oneCell (by assumption) h.2) 4 rfl ?_))
        | (refine wl rfl (op_storeC (o := 1) h rfl rfl K.sz_S_uint8 (by first | rfl | assumption | exact Views.oneCell (Views.own 0 rfl) h.2 | exact Views.oneCell (Views.own 1 rfl) h.2 | exact Views.oneCell (Views.own 2 rfl) h.2 | exact Views.oneCell (Views.own 3 rfl) h.2 | exact Views.oneCell (Views.own 4 rfl) h.2 | exact Views.oneCell (Views.own 5 rfl) h.2 | exact Views.oneCell (by assumption) h.2) 5 rfl ?_))
        | (refine wl rfl (op_storeC (o := 1) h rfl rfl K.sz_S_uint8 (by first | rfl | assumption | exact Views.oneCell (Views.own 0 rfl) h.2 | exact Views.oneCell (Views.own 1 rfl) h.2 | exact Views.oneCell (Views.own 2 rfl) h.2 | exact Views.oneCell (Views.own 3 rfl) h.2 | exact Views.oneCell (Views.own 4 rfl) h.2 | exact Views.oneCell (Views.own 5 rfl) h.2 | exact Views.oneCell (by assumption) h.2) 6 rfl ?_))
      clear h a w; intro a w h
      (try simp only [List.set_cons_zero, List.set_cons_succ] at h)
      refine wnil ?_
      rw [ht0, ← List.append_assoc]
      exact end0 h rfl ⟨v22, rfl, tell_end h.addNilb.2, trivial⟩
  ·
    obtain rfl : t = [] := List.eq_nil_of_length_eq_zero (by omega)
    refine c_skip ?_
    refine c_then ?_
    refine c_region ?_
    refine wv h (r_move h rfl) rfl ?_
    clear h a w; intro a w h
    refine wv h (r_nilCheck h rfl) rfl ?_
    clear h a w; intro a w h
    refine wv h (r_fieldAddr h 1 rfl K.u_delta_maker rfl K.sz_S_uint8 rfl rfl) rfl ?_
    clear h a w; intro a w h
    first
      | (refine wl rfl (op_storeN h rfl rfl K.sz_S_uint8 (by first | rfl | assumption | exact Views.oneCell (Views.own 0 rfl) h.2 | exact Views.oneCell (Views.own 1 rfl) h.2 | exact Views.oneCell (Views.own 2 rfl) h.2 | exact Views.oneCell (Views.own 3 rfl) h.2 | exact Views.oneCell (Views.own 4 rfl) h.2 | exact Views.oneCell (Views.own 5 rfl) h.2 | exact Views.oneCell (by assumption) h.2) 0 rfl rfl ?_))
      | (refine wl rfl (op_storeN h rfl rfl K.sz_S_uint8 (by first | rfl | assumption | exact Views.oneCell (Views.own 0 rfl) h.2 | exact Views.oneCell (Views.own 1 rfl) h.2 | exact Views.oneCell (Views.own 2 rfl) h.2 | exact Views.oneCell (Views.own 3 rfl) h.2 | exact Views.oneCell (Views.own 4 rfl) h.2 | exact Views.oneCell (Views.own 5 rfl) h.2 | exact Views.oneCell (by assumption) h.2) 1 rfl rfl ?_))
      | (refine wl rfl (op_storeN h rfl rfl K.sz_S_uint8 (by first | rfl | assumption | exact Views.oneCell (Views.own 0 rfl) h.2 | exact Views.oneCell (Views.own 1 rfl) h.2 | exact Views.oneCell (Views.own 2 rfl) h.2 | exact Views.oneCell (Views.own 3 rfl) h.2 | exact Views.oneCell (Views.own 4 rfl) h.2 | exact Views.oneCell (Views.own 5 rfl) h.2 | exact Views.oneCell (by assumption) h.2) 2 rfl rfl ?_))
      | (refine wl rfl (op_storeN h rfl rfl K.sz_S_uint8 (by first | rfl | assumption | exact Views.oneCell (Views.own 0 rfl) h.2 | exact Views.oneCell (Views.own 1 rfl) h.2 | exact Views.oneCell (Views.own 2 rfl) h.2 | exact Views.oneCell (Views.own 3 rfl) h.2 | exact Views.oneCell (Views.own 4 rfl) h.2 | exact Views.oneCell (Views.own 5 rfl) h.2 | exact Views.oneCell (by assumption) h.2) 3 rfl rfl ?_))
      | (refine wl rfl (op_storeN h rfl rfl K.sz_S_uint8 (by first | rfl | assumption | exact Views.oneCell (Views.own 0 rfl) h.2 | exact Views.oneCell (Views.own 1 rfl) h.2 | exact Views.oneCell (Views.own 2 rfl) h.2 | exact Views.oneCell (Views.own 3 rfl) h.2 | exact Views.oneCell (Views.own 4 rfl) h.2 | exact Views.oneCell (Views.own 5 rfl) h.2 | exact Views.oneCell (by assumption) h.2) 4 rfl rfl ?_))
      | (refine wl rfl (op_storeN h rfl rfl K.sz_S_uint8 (by first | rfl | assumption | exact Views.oneCell (Views.own 0 rfl) h.2 | exact Views.oneCell (Views.own 1 rfl) h.2 | exact Views.oneCell (Views.own 2 rfl) h.2 | exact Views.oneCell (Views.own 3 rfl) h.2 | exact Views.oneCell (Views.own 4 rfl) h.2 | exact Views.oneCell (Views.own 5 rfl) h.2 | exact Views.oneCell (by assumption) h.2) 5 rfl rfl ?_))
      | (refine wl rfl (op_storeN h rfl rfl K.sz_S_uint8 (by first | rfl | assumption | exact Views.oneCell (Views.own 0 rfl) h.2 | exact Views.oneCell (Views.own 1 rfl) h.2 | exact Views.oneCell (Views.own 2 rfl) h.2 | exact Views.oneCell (Views.own 3 rfl) h.2 | exact Views.oneCell (Views.own 4 rfl) h.2 | exact Views.oneCell (Views.own 5 rfl) h.2 | exact Views.oneCell (by assumption) h.2) 6 rfl rfl ?_))
      | (refine wl rfl (op_storeC (o := 1) h rfl rfl K.sz_S_uint8 (by first | rfl | assumption | exact Views.oneCell (Views.own 0 rfl) h.2 | exact Views.oneCell (Views.own 1 rfl) h.2 | exact Views.oneCell (Views.own 2 rfl) h.2 | exact Views.oneCell (Views.own 3 rfl) h.2 | exact Views.oneCell (Views.own 4 rfl) h.2 | exact Views.oneCell (Views.own 5 rfl) h.2 | exact Views.oneCell (by assumption) h.2) 0 rfl ?_))
      | (refine wl rfl (op_storeC (o := 1) h rfl rfl K.sz_S_uint8 (by first | rfl | assumption | exact Views.oneCell (Views.own 0 rfl) h.2 | exact Views.oneCell (Views.own 1 rfl) h.2 | exact Views.oneCell (Views.own 2 rfl) h.2 | exact Views.oneCell (Views.own 3 rfl) h.2 | exact Views.oneCell (Views.own 4 rfl) h.2 | exact Views.oneCell (Views.own 5 rfl) h.2 | exact Views.oneCell (by assumption) h.2) 1 rfl ?_))
      | (refine wl rfl (op_storeC (o := 1) h rfl rfl K.sz_S_uint8 (by first | rfl | assumption | exact Views.oneCell (Views.own 0 rfl) h.2 | exact Views.oneCell (Views.own 1 rfl) h.2 | exact Views.oneCell (Views.own 2 rfl) h.2 | exact Views.oneCell (Views.own 3 rfl) h.2 | exact Views.oneCell (Views.own 4 rfl) h.2 | exact Views.oneCell (Views.own 5 rfl) h.2 | exact Views.oneCell (by assumption) h.2) 2 rfl ?_))
      | (refine wl rfl (op_storeC (o := 1) h rfl rfl K.sz_S_uint8 (by first | rfl | assumption | exact Views.oneCell (Views.own 0 rfl) h.2 | exact Views.oneCell (Views.own 1 rfl) h.2 | exact Views.oneCell (Views.own 2 rfl) h.2 | exact Views.oneCell (Views.own 3 rfl) h.2 | exact Views.oneCell (Views.own 4 rfl) h.2 | exact Views.oneCell (Views.own 5 rfl) h.2 | exact Views.oneCell (by assumption) h.2) 3 rfl ?_))
      | (refine wl rfl (op_storeC (o := 1) h rfl rfl K.sz_S_uint8 (by first | rfl | assumption | exact Views.oneCell (Views.own 0 rfl) h.2 | exact Views.oneCell (Views.own 1 rfl) h.2 | exact Views.oneCell (Views.own 2 rfl) h.2 | exact Views.oneCell (Views.own 3 rfl) h.2 | exact Views.oneCell (Views.own 4 rfl) h.2 | exact Views.oneCell (Views.own 5 rfl) h.2 | exact Views.oneCell (by assumption) h.2) 4 rfl ?_))
      | (refine wl rfl (op_storeC (o := 1) h rfl rfl K.sz_S_uint8 (by first | rfl | assumption | exact Views.oneCell (Views.own 0 rfl) h.2 | exact Views.oneCell (Views.own 1 rfl) h.2 | exact Views.oneCell (Views.own 2 rfl) h.2 | exact Views.oneCell (Views.own 3 rfl) h.2 | exact Views.oneCell (Views.own 4 rfl) h.2 | exact Views.oneCell (Views.own 5 rfl) h.2 | exact Views.oneCell (by assumption) h.2) 5 rfl ?_))
      | (refine wl rfl (op_storeC (o := 1) h rfl rfl K.sz_S_uint8 (by first | rfl | assumption | exact Views.oneCell (Views.own 0 rfl) h.2 | exact Views.oneCell (Views.own 1 rfl) h.2 | exact Views.oneCell (Views.own 2 rfl) h.2 | exact Views.oneCell (Views.own 3 rfl) h.2 | exact Views.oneCell (Views.own 4 rfl) h.2 | exact Views.oneCell (Views.own 5 rfl) h.2 | exact Views.oneCell (by assumption) h.2) 6 rfl ?_))
    clear h a w; intro a w h
    (try simp only [List.set_cons_zero, List.set_cons_succ] at h)
    refine wnil ?_
    rw [tellN_nil, List.append_nil]
    exact end0 h rfl ⟨vp, rfl, tell_end h.addNilb.2, trivial⟩
end Go.Proofs.K
