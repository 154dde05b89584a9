/- The law of layer 2 on texts, walked. -/
import Derived.Test.YtooijcnjfhgboaaDoorLaw02
import Derived.Test.YtooijcnjfhgboaaDoorKeyPure
set_option linter.unusedVariables false
set_option linter.unusedSimpArgs false
set_option maxRecDepth 10000
set_option maxHeartbeats 6000000
namespace Go.Proofs.K
open Go.Sl
attribute [local irreducible] Go.Sl.Own Go.Sl.Blk Go.Sl.Sep Go.Sl.Ex Go.Sl.Fact

def nibOk (c : UInt8) : Bool := decide (48 ≤ c) && decide (c ≤ 57) || decide (97 ≤ c) && decide (c ≤ 102)
theorem hexOk_nib (x : List UInt8) : hexOk x = (decide (x.length = 64) && x.all nibOk) := by
  have e : (fun c => decide (nib c ≤ 15)) = nibOk := by funext c; exact nib_ok c
  rw [hexOk, e]
  by_cases q : x.length = 64 <;> simp [q]

theorem stampReads (s w : World) (str k : List UInt8) (at_ c : UInt8) (hst : str.length ≤ maxLen) (hk : k.length = 32) (F : List HItem) (hT : HasParts F) (hF : HasFirst F) (hs : Sat s w F) :
    Calls P n_law02_StampReads #[sv str, .agg (arr8 k), bv at_, bv c] w (Ret s (fun _ : Unit => .bool true) (fun _ => F) (fun _ => True)) := by
  have hm : (at_ % 64).toNat = at_.toNat % 64 := by rw [UInt8.toNat_mod]; rfl
  have hl : (hexOf k).length = 64 := by rw [hexOf_len]; omega
  refine enter K.fn_law02_StampReads rfl K.nt_law02_StampReads rfl hs ?_
  clear hs w; intro a w h
  refine c_seq (c_region ?_)
  refine wl rfl (op_box h rfl rfl ?_)
  clear h a w; intro b5 a w h
  try simp only [Value.cells] at h
  refine wv h (r_assign h rfl) rfl ?_
  clear h a w; intro a w h
  refine wnil (c_then ?_)
  refine c_seq ?_
  refine c_seq (c_region ?_)
  refine wl rfl (op_call h rfl K.go_law02_awake (law02_awake s _ _ (by first | assumption | exact CellsAt.of_drop 1 (by assumption) | exact CellsAt.of_drop 2 (by assumption) | exact CellsAt.of_drop 3 (by assumption) | exact CellsAt.of_drop 4 (by assumption) | exact CellsAt.of_drop 5 (by assumption) | exact CellsAt.of_drop 6 (by assumption) | exact CellsAt.of_drop 7 (by assumption) | exact CellsAt.of_drop 8 (by assumption) | exact CellsAt.of_drop 9 (by assumption) | exact CellsAt.of_drop 10 (by assumption) | exact CellsAt.of_drop 11 (by assumption) | exact CellsAt.of_drop 12 (by assumption)) (by first | assumption | exact CellsAt.of_drop 1 (by assumption) | exact CellsAt.of_drop 2 (by assumption) | exact CellsAt.of_drop 3 (by assumption) | exact CellsAt.of_drop 4 (by assumption) | exact CellsAt.of_drop 5 (by assumption) | exact CellsAt.of_drop 6 (by assumption) | exact CellsAt.of_drop 7 (by assumption) | exact CellsAt.of_drop 8 (by assumption) | exact CellsAt.of_drop 9 (by assumption) | exact CellsAt.of_drop 10 (by assumption) | exact CellsAt.of_drop 11 (by assumption) | exact CellsAt.of_drop 12 (by assumption)) h.2) rfl ?_)
  clear h a w; intro x a w hx h
  (try simp only [List.set_cons_zero, List.set_cons_succ] at h)
  refine wv h (r_not h rfl) rfl ?_
  clear h a w; intro a w h
  refine wv h (r_move h rfl) rfl ?_
  clear h a w; intro a w h
  refine wvG h (by first | exact .t rfl | exact .f rfl | exact .gt rfl | exact .gf rfl) (fun hg => by (try simp only [↓gval_on hg, ↓gval_and hg] at h); (have hg2 := hg; (try simp only [Bool.and_eq_true, Bool.or_eq_true, Bool.not_eq_true', decide_eq_true_eq, decide_eq_false_iff_not] at hg2)); first | exact r_move h rfl) rfl ?_
  clear h a w; intro a w h
  refine wvG h (by first | exact .t rfl | exact .f rfl | exact .gt rfl | exact .gf rfl) (fun hg => by (try simp only [↓gval_on hg, ↓gval_and hg] at h); (have hg2 := hg; (try simp only [Bool.and_eq_true, Bool.or_eq_true, Bool.not_eq_true', decide_eq_true_eq, decide_eq_false_iff_not] at hg2)); first | exact r_lenT h rfl K.u_string) rfl ?_
  clear h a w; intro a w h
  refine wvG h (by first | exact .t rfl | exact .f rfl | exact .gt rfl | exact .gf rfl) (fun hg => by (try simp only [↓gval_on hg, ↓gval_and hg] at h); (have hg2 := hg; (try simp only [Bool.and_eq_true, Bool.or_eq_true, Bool.not_eq_true', decide_eq_true_eq, decide_eq_false_iff_not] at hg2)); first | exact r_bin h rfl rfl (B.gtr_int)) rfl ?_
  clear h a w; intro a w h
  first
    | (refine wv h (r_pickA h rfl rfl rfl) rfl ?_)
    | (refine wv h (r_pickO h rfl rfl rfl) rfl ?_)
    | (refine wv h (r_pick_true h rfl rfl) rfl ?_)
    | (refine wv h (r_pick_false h rfl rfl) rfl ?_)
    | (refine wv h (r_pick h rfl rfl rfl) rfl ?_)
  clear h a w; intro a w h
  refine wnil (c_then ?_)
  first
    | refine c_condD h rfl (fun ht1 => ?_) (fun ht1 => ?_)
    | refine c_condP h rfl (by first | (simp only [Bool.and_eq_true, Bool.or_eq_true, Bool.not_eq_true', decide_eq_true_eq, decide_eq_false_iff_not, ne_eq, Bool.not_eq_eq_eq_not, Bool.not_true, beq_iff_eq, bne_iff_ne]; exact Iff.rfl) | exact Iff.rfl) (fun ht1 => ?_) (fun ht1 => ?_)
  ·
    as_aux_lemma =>
      refine c_seq (c_region ?_)
      refine wl rfl (op_call h rfl K.go_law02_awake (law02_awake s _ _ (by first | assumption | exact CellsAt.of_drop 1 (by assumption) | exact CellsAt.of_drop 2 (by assumption) | exact CellsAt.of_drop 3 (by assumption) | exact CellsAt.of_drop 4 (by assumption) | exact CellsAt.of_drop 5 (by assumption) | exact CellsAt.of_drop 6 (by assumption) | exact CellsAt.of_drop 7 (by assumption) | exact CellsAt.of_drop 8 (by assumption) | exact CellsAt.of_drop 9 (by assumption) | exact CellsAt.of_drop 10 (by assumption) | exact CellsAt.of_drop 11 (by assumption) | exact CellsAt.of_drop 12 (by assumption)) (by first | assumption | exact CellsAt.of_drop 1 (by assumption) | exact CellsAt.of_drop 2 (by assumption) | exact CellsAt.of_drop 3 (by assumption) | exact CellsAt.of_drop 4 (by assumption) | exact CellsAt.of_drop 5 (by assumption) | exact CellsAt.of_drop 6 (by assumption) | exact CellsAt.of_drop 7 (by assumption) | exact CellsAt.of_drop 8 (by assumption) | exact CellsAt.of_drop 9 (by assumption) | exact CellsAt.of_drop 10 (by assumption) | exact CellsAt.of_drop 11 (by assumption) | exact CellsAt.of_drop 12 (by assumption)) h.2) rfl ?_)
      clear h a w; intro x a w hx h
      (try simp only [List.set_cons_zero, List.set_cons_succ] at h)
      refine wv h (r_assign h rfl) rfl ?_
      clear h a w; intro a w h
      refine wnil (c_then ?_)
      refine c_ret ?_
      exact ret1 h rfl rfl ⟨(), rfl, h.2.drop 1, trivial⟩
  ·
    have hst2 : str.length ≤ 100 := by omega
    refine c_skip ?_
    refine c_then ?_
    refine c_seq (c_region ?_)
    first
      | (refine wv h (r_loadA8 h rfl K.u_A32_uint8 rfl K.sz_A32_uint8 0 rfl (by first | rfl | assumption | (simp; done) | (simp; omega) | omega)) rfl ?_)
      | (refine wv h (r_loadA8 h rfl K.u_A32_uint8 rfl K.sz_A32_uint8 1 rfl (by first | rfl | assumption | (simp; done) | (simp; omega) | omega)) rfl ?_)
      | (refine wv h (r_loadA8 h rfl K.u_A32_uint8 rfl K.sz_A32_uint8 2 rfl (by first | rfl | assumption | (simp; done) | (simp; omega) | omega)) rfl ?_)
      | (refine wv h (r_loadA8 h rfl K.u_A32_uint8 rfl K.sz_A32_uint8 3 rfl (by first | rfl | assumption | (simp; done) | (simp; omega) | omega)) rfl ?_)
      | (refine wv h (r_loadA8 h rfl K.u_A32_uint8 rfl K.sz_A32_uint8 4 rfl (by first | rfl | assumption | (simp; done) | (simp; omega) | omega)) rfl ?_)
      | (refine wv h (r_loadA8 h rfl K.u_A32_uint8 rfl K.sz_A32_uint8 5 rfl (by first | rfl | assumption | (simp; done) | (simp; omega) | omega)) rfl ?_)
      | (refine wv h (r_loadCA h rfl K.u_A32_uint8 rfl K.sz_A32_uint8 (by assumption) (by first | rfl | assumption | (simp; done) | (simp; omega) | omega)) rfl ?_)
    clear h a w; intro a w h
    refine wl rfl (op_call h rfl K.go_stamp_Text (stamp_Text s _ _ (by first | rfl | assumption | (simp; done) | (simp; omega) | omega) _ h.2) rfl ?_)
    clear h a w; intro x a w hx h
    (try simp only [List.set_cons_zero, List.set_cons_succ] at h)
    refine wl rfl (op_s2bb h rfl K.u_string K.u_S_uint8 K.u_uint8 (by first | omega | (simp only [List.length_cons, List.length_nil]; omega) | (simp; done) | (simp; omega)) rfl ?_)
    clear h a w; intro v26 a w h
    refine wv h (r_assign h rfl) rfl ?_
    clear h a w; intro a w h
    refine wnil (c_then ?_)
    refine c_seq ?_
    refine c_seq (c_region ?_)
    refine wv h (r_move h rfl) rfl ?_
    clear h a w; intro a w h
    refine wv h (r_lenB h rfl K.u_S_uint8 (by first | exact ViewsB.own 0 rfl | exact ViewsB.own 1 rfl | exact ViewsB.own 2 rfl | exact ViewsB.own 3 rfl | exact ViewsB.own 4 rfl | exact ViewsB.own 5 rfl | assumption | exact ViewsB.nil _ | exact ViewsB.arr 0 rfl (by first | assumption | rfl | (simp; done)) (Nat.le_refl _) (by simp [maxLen]) | exact ViewsB.arr 1 rfl (by first | assumption | rfl | (simp; done)) (Nat.le_refl _) (by simp [maxLen]) | exact ViewsB.arr 2 rfl (by first | assumption | rfl | (simp; done)) (Nat.le_refl _) (by simp [maxLen]) | exact ViewsB.arr 3 rfl (by first | assumption | rfl | (simp; done)) (Nat.le_refl _) (by simp [maxLen]) | exact ViewsB.arr 4 rfl (by first | assumption | rfl | (simp; done)) (Nat.le_refl _) (by simp [maxLen]) | exact ViewsB.of_drop 1 (by assumption) | exact ViewsB.of_drop 2 (by assumption) | exact ViewsB.of_drop 3 (by assumption) | exact ViewsB.of_drop 4 (by assumption) | exact ViewsB.of_drop 5 (by assumption) | exact ViewsB.of_drop 6 (by assumption) | exact ViewsB.of_drop 7 (by assumption) | exact ViewsB.of_drop 8 (by assumption) | exact ViewsB.of_drop 9 (by assumption) | exact ViewsB.of_drop 10 (by assumption) | exact ViewsB.of_drop 11 (by assumption) | exact ViewsB.of_drop 12 (by assumption) | exact ViewsB.sub (by first | exact ViewsB.own 0 rfl | exact ViewsB.own 1 rfl | exact ViewsB.own 2 rfl | exact ViewsB.own 3 rfl | exact ViewsB.own 4 rfl | exact ViewsB.own 5 rfl | assumption | exact ViewsB.nil _ | exact ViewsB.arr 0 rfl (by first | assumption | rfl | (simp; done)) (Nat.le_refl _) (by simp [maxLen]) | exact ViewsB.arr 1 rfl (by first | assumption | rfl | (simp; done)) (Nat.le_refl _) (by simp [maxLen]) | exact ViewsB.arr 2 rfl (by first | assumption | rfl | (simp; done)) (Nat.le_refl _) (by simp [maxLen]) | exact ViewsB.arr 3 rfl (by first | assumption | rfl | (simp; done)) (Nat.le_refl _) (by simp [maxLen]) | exact ViewsB.arr 4 rfl (by first | assumption | rfl | (simp; done)) (Nat.le_refl _) (by simp [maxLen]) | exact ViewsB.of_drop 1 (by assumption) | exact ViewsB.of_drop 2 (by assumption) | exact ViewsB.of_drop 3 (by assumption) | exact ViewsB.of_drop 4 (by assumption) | exact ViewsB.of_drop 5 (by assumption) | exact ViewsB.of_drop 6 (by assumption) | exact ViewsB.of_drop 7 (by assumption) | exact ViewsB.of_drop 8 (by assumption) | exact ViewsB.of_drop 9 (by assumption) | exact ViewsB.of_drop 10 (by assumption) | exact ViewsB.of_drop 11 (by assumption) | exact ViewsB.of_drop 12 (by assumption)) (by omega) (by first | omega | (simp; done) | (simp; omega)))) rfl ?_
    clear h a w; intro a w h
    refine wv h (r_bin h rfl rfl (B.neq_int)) rfl ?_
    clear h a w; intro a w h
    refine wnil (c_then ?_)
    first
      | refine c_condD h rfl (fun ht2 => ?_) (fun ht2 => ?_)
      | refine c_condP h rfl (by first | (simp only [Bool.and_eq_true, Bool.or_eq_true, Bool.not_eq_true', decide_eq_true_eq, decide_eq_false_iff_not, ne_eq, Bool.not_eq_eq_eq_not, Bool.not_true, beq_iff_eq, bne_iff_ne]; exact Iff.rfl) | exact Iff.rfl) (fun ht2 => ?_) (fun ht2 => ?_)
    ·
      exfalso; omega
    ·
      refine c_skip ?_
      refine c_then ?_
      refine c_seq (c_region ?_)
      refine wv h (r_move h rfl) rfl ?_
      clear h a w; intro a w h
      refine wv h (r_move h rfl) rfl ?_
      clear h a w; intro a w h
      refine wv h (r_bin h rfl rfl (B.rem_u8 (y := 64) (by decide))) rfl ?_
      clear h a w; intro a w h
      refine wv h (r_move h rfl) rfl ?_
      clear h a w; intro a w h
      refine wv h (r_elP h rfl rfl K.u_S_uint8 K.sz_uint8 (by first | exact ViewsB.own 0 rfl | exact ViewsB.own 1 rfl | exact ViewsB.own 2 rfl | exact ViewsB.own 3 rfl | exact ViewsB.own 4 rfl | exact ViewsB.own 5 rfl | assumption | exact ViewsB.nil _ | exact ViewsB.arr 0 rfl (by first | assumption | rfl | (simp; done)) (Nat.le_refl _) (by simp [maxLen]) | exact ViewsB.arr 1 rfl (by first | assumption | rfl | (simp; done)) (Nat.le_refl _) (by simp [maxLen]) | exact ViewsB.arr 2 rfl (by first | assumption | rfl | (simp; done)) (Nat.le_refl _) (by simp [maxLen]) | exact ViewsB.arr 3 rfl (by first | assumption | rfl | (simp; done)) (Nat.le_refl _) (by simp [maxLen]) | exact ViewsB.arr 4 rfl (by first | assumption | rfl | (simp; done)) (Nat.le_refl _) (by simp [maxLen]) | exact ViewsB.of_drop 1 (by assumption) | exact ViewsB.of_drop 2 (by assumption) | exact ViewsB.of_drop 3 (by assumption) | exact ViewsB.of_drop 4 (by assumption) | exact ViewsB.of_drop 5 (by assumption) | exact ViewsB.of_drop 6 (by assumption) | exact ViewsB.of_drop 7 (by assumption) | exact ViewsB.of_drop 8 (by assumption) | exact ViewsB.of_drop 9 (by assumption) | exact ViewsB.of_drop 10 (by assumption) | exact ViewsB.of_drop 11 (by assumption) | exact ViewsB.of_drop 12 (by assumption) | exact ViewsB.sub (by first | exact ViewsB.own 0 rfl | exact ViewsB.own 1 rfl | exact ViewsB.own 2 rfl | exact ViewsB.own 3 rfl | exact ViewsB.own 4 rfl | exact ViewsB.own 5 rfl | assumption | exact ViewsB.nil _ | exact ViewsB.arr 0 rfl (by first | assumption | rfl | (simp; done)) (Nat.le_refl _) (by simp [maxLen]) | exact ViewsB.arr 1 rfl (by first | assumption | rfl | (simp; done)) (Nat.le_refl _) (by simp [maxLen]) | exact ViewsB.arr 2 rfl (by first | assumption | rfl | (simp; done)) (Nat.le_refl _) (by simp [maxLen]) | exact ViewsB.arr 3 rfl (by first | assumption | rfl | (simp; done)) (Nat.le_refl _) (by simp [maxLen]) | exact ViewsB.arr 4 rfl (by first | assumption | rfl | (simp; done)) (Nat.le_refl _) (by simp [maxLen]) | exact ViewsB.of_drop 1 (by assumption) | exact ViewsB.of_drop 2 (by assumption) | exact ViewsB.of_drop 3 (by assumption) | exact ViewsB.of_drop 4 (by assumption) | exact ViewsB.of_drop 5 (by assumption) | exact ViewsB.of_drop 6 (by assumption) | exact ViewsB.of_drop 7 (by assumption) | exact ViewsB.of_drop 8 (by assumption) | exact ViewsB.of_drop 9 (by assumption) | exact ViewsB.of_drop 10 (by assumption) | exact ViewsB.of_drop 11 (by assumption) | exact ViewsB.of_drop 12 (by assumption)) (by omega) (by first | omega | (simp; done) | (simp; omega))) (by first | omega | (simp; done)) (by first | omega | (simp only [List.length_cons, List.length_nil]; omega) | (simp; done) | (simp; omega))) rfl ?_
      clear h a w; intro a w h
      first
        | (refine wl rfl (op_storeEb h rfl rfl K.sz_uint8 0 rfl (by first | omega | (simp only [List.length_cons, List.length_nil]; omega) | (simp; done) | (simp; omega)) ?_))
        | (refine wl rfl (op_storeEb h rfl rfl K.sz_uint8 1 rfl (by first | omega | (simp only [List.length_cons, List.length_nil]; omega) | (simp; done) | (simp; omega)) ?_))
        | (refine wl rfl (op_storeEb h rfl rfl K.sz_uint8 2 rfl (by first | omega | (simp only [List.length_cons, List.length_nil]; omega) | (simp; done) | (simp; omega)) ?_))
        | (refine wl rfl (op_storeEb h rfl rfl K.sz_uint8 3 rfl (by first | omega | (simp only [List.length_cons, List.length_nil]; omega) | (simp; done) | (simp; omega)) ?_))
        | (refine wl rfl (op_storeEb h rfl rfl K.sz_uint8 4 rfl (by first | omega | (simp only [List.length_cons, List.length_nil]; omega) | (simp; done) | (simp; omega)) ?_))
        | (refine wl rfl (op_storeEb h rfl rfl K.sz_uint8 5 rfl (by first | omega | (simp only [List.length_cons, List.length_nil]; omega) | (simp; done) | (simp; omega)) ?_))
      clear h a w; intro a w h
      (try simp only [List.set_cons_zero, List.set_cons_succ] at h)
      refine wnil (c_then ?_)
      refine c_seq ?_
      refine c_seq (c_drawn 12 K.mixed rfl h ?_)
      clear h a w; intro a w h
      have hD : Paid s w [] := Paid.nil
      refine d_take0 (listed' := #[true, false, false, false, false, false, false, false, false, false, false, false]) h hD 0 (by as_aux_lemma => kernel_rfl) rfl (by as_aux_lemma => kernel_rfl) (by as_aux_lemma => kernel_rfl) (by as_aux_lemma => kernel_rfl) (fun _ _ _ _ hh => hh) (fun w h => by first | exact r_move h rfl) rfl ?_
      clear hD h a w; intro a w h hD
      refine d_take0 (listed' := #[true, true, false, false, false, false, false, false, false, false, false, false]) h hD 1 (by as_aux_lemma => kernel_rfl) rfl (by as_aux_lemma => kernel_rfl) (by as_aux_lemma => kernel_rfl) (by as_aux_lemma => kernel_rfl) (fun _ _ _ _ hh => hh) (fun w h => by first | exact r_move h rfl) rfl ?_
      clear hD h a w; intro a w h hD
      refine d_take (listed' := #[true, true, true, false, false, false, false, false, false, false, false, false]) h hD 2 _ (by as_aux_lemma => kernel_rfl) rfl (by as_aux_lemma => kernel_rfl) (by as_aux_lemma => kernel_rfl) (by as_aux_lemma => kernel_rfl) (fun _ _ _ _ hh => hh) h.2 (fun w hw => by first | exact r_b2sb ⟨h.1, hw⟩ rfl K.u_S_uint8 K.u_uint8 K.u_string (by first | exact ViewsB.own 0 rfl | exact ViewsB.own 1 rfl | exact ViewsB.own 2 rfl | exact ViewsB.own 3 rfl | exact ViewsB.own 4 rfl | exact ViewsB.own 5 rfl | assumption | exact ViewsB.nil _ | exact ViewsB.arr 0 rfl (by first | assumption | rfl | (simp; done)) (Nat.le_refl _) (by simp [maxLen]) | exact ViewsB.arr 1 rfl (by first | assumption | rfl | (simp; done)) (Nat.le_refl _) (by simp [maxLen]) | exact ViewsB.arr 2 rfl (by first | assumption | rfl | (simp; done)) (Nat.le_refl _) (by simp [maxLen]) | exact ViewsB.arr 3 rfl (by first | assumption | rfl | (simp; done)) (Nat.le_refl _) (by simp [maxLen]) | exact ViewsB.arr 4 rfl (by first | assumption | rfl | (simp; done)) (Nat.le_refl _) (by simp [maxLen]) | exact ViewsB.of_drop 1 (by assumption) | exact ViewsB.of_drop 2 (by assumption) | exact ViewsB.of_drop 3 (by assumption) | exact ViewsB.of_drop 4 (by assumption) | exact ViewsB.of_drop 5 (by assumption) | exact ViewsB.of_drop 6 (by assumption) | exact ViewsB.of_drop 7 (by assumption) | exact ViewsB.of_drop 8 (by assumption) | exact ViewsB.of_drop 9 (by assumption) | exact ViewsB.of_drop 10 (by assumption) | exact ViewsB.of_drop 11 (by assumption) | exact ViewsB.of_drop 12 (by assumption) | exact ViewsB.sub (by first | exact ViewsB.own 0 rfl | exact ViewsB.own 1 rfl | exact ViewsB.own 2 rfl | exact ViewsB.own 3 rfl | exact ViewsB.own 4 rfl | exact ViewsB.own 5 rfl | assumption | exact ViewsB.nil _ | exact ViewsB.arr 0 rfl (by first | assumption | rfl | (simp; done)) (Nat.le_refl _) (by simp [maxLen]) | exact ViewsB.arr 1 rfl (by first | assumption | rfl | (simp; done)) (Nat.le_refl _) (by simp [maxLen]) | exact ViewsB.arr 2 rfl (by first | assumption | rfl | (simp; done)) (Nat.le_refl _) (by simp [maxLen]) | exact ViewsB.arr 3 rfl (by first | assumption | rfl | (simp; done)) (Nat.le_refl _) (by simp [maxLen]) | exact ViewsB.arr 4 rfl (by first | assumption | rfl | (simp; done)) (Nat.le_refl _) (by simp [maxLen]) | exact ViewsB.of_drop 1 (by assumption) | exact ViewsB.of_drop 2 (by assumption) | exact ViewsB.of_drop 3 (by assumption) | exact ViewsB.of_drop 4 (by assumption) | exact ViewsB.of_drop 5 (by assumption) | exact ViewsB.of_drop 6 (by assumption) | exact ViewsB.of_drop 7 (by assumption) | exact ViewsB.of_drop 8 (by assumption) | exact ViewsB.of_drop 9 (by assumption) | exact ViewsB.of_drop 10 (by assumption) | exact ViewsB.of_drop 11 (by assumption) | exact ViewsB.of_drop 12 (by assumption)) (by omega) (by first | omega | (simp; done) | (simp; omega)))) rfl ?_
      clear hD h a w; intro a w h hD
      refine d_take0 (listed' := #[true, true, true, true, false, false, false, false, false, false, false, false]) h hD 3 (by as_aux_lemma => kernel_rfl) rfl (by as_aux_lemma => kernel_rfl) (by as_aux_lemma => kernel_rfl) (by as_aux_lemma => kernel_rfl) (fun _ _ _ _ hh => hh) (fun w h => by first | exact r_move h rfl) rfl ?_
      clear hD h a w; intro a w h hD
      refine d_take (listed' := #[true, true, true, true, true, false, false, false, false, false, false, false]) h hD 4 _ (by as_aux_lemma => kernel_rfl) rfl (by as_aux_lemma => kernel_rfl) (by as_aux_lemma => kernel_rfl) (by as_aux_lemma => kernel_rfl) (fun _ _ _ _ hh => hh) h.2 (fun w hw => by first | exact r_sliceB ⟨h.1, hw⟩ rfl K.u_S_uint8 K.sz_uint8 (by first | exact ViewsB.own 0 rfl | exact ViewsB.own 1 rfl | exact ViewsB.own 2 rfl | exact ViewsB.own 3 rfl | exact ViewsB.own 4 rfl | exact ViewsB.own 5 rfl | assumption | exact ViewsB.nil _ | exact ViewsB.arr 0 rfl (by first | assumption | rfl | (simp; done)) (Nat.le_refl _) (by simp [maxLen]) | exact ViewsB.arr 1 rfl (by first | assumption | rfl | (simp; done)) (Nat.le_refl _) (by simp [maxLen]) | exact ViewsB.arr 2 rfl (by first | assumption | rfl | (simp; done)) (Nat.le_refl _) (by simp [maxLen]) | exact ViewsB.arr 3 rfl (by first | assumption | rfl | (simp; done)) (Nat.le_refl _) (by simp [maxLen]) | exact ViewsB.arr 4 rfl (by first | assumption | rfl | (simp; done)) (Nat.le_refl _) (by simp [maxLen]) | exact ViewsB.of_drop 1 (by assumption) | exact ViewsB.of_drop 2 (by assumption) | exact ViewsB.of_drop 3 (by assumption) | exact ViewsB.of_drop 4 (by assumption) | exact ViewsB.of_drop 5 (by assumption) | exact ViewsB.of_drop 6 (by assumption) | exact ViewsB.of_drop 7 (by assumption) | exact ViewsB.of_drop 8 (by assumption) | exact ViewsB.of_drop 9 (by assumption) | exact ViewsB.of_drop 10 (by assumption) | exact ViewsB.of_drop 11 (by assumption) | exact ViewsB.of_drop 12 (by assumption) | exact ViewsB.sub (by first | exact ViewsB.own 0 rfl | exact ViewsB.own 1 rfl | exact ViewsB.own 2 rfl | exact ViewsB.own 3 rfl | exact ViewsB.own 4 rfl | exact ViewsB.own 5 rfl | assumption | exact ViewsB.nil _ | exact ViewsB.arr 0 rfl (by first | assumption | rfl | (simp; done)) (Nat.le_refl _) (by simp [maxLen]) | exact ViewsB.arr 1 rfl (by first | assumption | rfl | (simp; done)) (Nat.le_refl _) (by simp [maxLen]) | exact ViewsB.arr 2 rfl (by first | assumption | rfl | (simp; done)) (Nat.le_refl _) (by simp [maxLen]) | exact ViewsB.arr 3 rfl (by first | assumption | rfl | (simp; done)) (Nat.le_refl _) (by simp [maxLen]) | exact ViewsB.arr 4 rfl (by first | assumption | rfl | (simp; done)) (Nat.le_refl _) (by simp [maxLen]) | exact ViewsB.of_drop 1 (by assumption) | exact ViewsB.of_drop 2 (by assumption) | exact ViewsB.of_drop 3 (by assumption) | exact ViewsB.of_drop 4 (by assumption) | exact ViewsB.of_drop 5 (by assumption) | exact ViewsB.of_drop 6 (by assumption) | exact ViewsB.of_drop 7 (by assumption) | exact ViewsB.of_drop 8 (by assumption) | exact ViewsB.of_drop 9 (by assumption) | exact ViewsB.of_drop 10 (by assumption) | exact ViewsB.of_drop 11 (by assumption) | exact ViewsB.of_drop 12 (by assumption)) (by omega) (by first | omega | (simp; done) | (simp; omega))) _ _ Bnd.no (Bnd.of rfl (by omega)) (by first | omega | (simp only [List.length_cons, List.length_nil]; omega) | (simp; done) | (simp; omega)) (by first | omega | (simp only [List.length_cons, List.length_nil]; omega) | (simp; done) | (simp; omega))) rfl ?_
      clear hD h a w; intro a w h hD
      refine d_take (listed' := #[true, true, true, true, true, true, false, false, false, false, false, false]) h hD 5 _ (by as_aux_lemma => kernel_rfl) rfl (by as_aux_lemma => kernel_rfl) (by as_aux_lemma => kernel_rfl) (by as_aux_lemma => kernel_rfl) (fun _ _ _ _ hh => hh) h.2 (fun w hw => by first | exact r_b2sb ⟨h.1, hw⟩ rfl K.u_S_uint8 K.u_uint8 K.u_string (by first | exact ViewsB.own 0 rfl | exact ViewsB.own 1 rfl | exact ViewsB.own 2 rfl | exact ViewsB.own 3 rfl | exact ViewsB.own 4 rfl | exact ViewsB.own 5 rfl | assumption | exact ViewsB.nil _ | exact ViewsB.arr 0 rfl (by first | assumption | rfl | (simp; done)) (Nat.le_refl _) (by simp [maxLen]) | exact ViewsB.arr 1 rfl (by first | assumption | rfl | (simp; done)) (Nat.le_refl _) (by simp [maxLen]) | exact ViewsB.arr 2 rfl (by first | assumption | rfl | (simp; done)) (Nat.le_refl _) (by simp [maxLen]) | exact ViewsB.arr 3 rfl (by first | assumption | rfl | (simp; done)) (Nat.le_refl _) (by simp [maxLen]) | exact ViewsB.arr 4 rfl (by first | assumption | rfl | (simp; done)) (Nat.le_refl _) (by simp [maxLen]) | exact ViewsB.of_drop 1 (by assumption) | exact ViewsB.of_drop 2 (by assumption) | exact ViewsB.of_drop 3 (by assumption) | exact ViewsB.of_drop 4 (by assumption) | exact ViewsB.of_drop 5 (by assumption) | exact ViewsB.of_drop 6 (by assumption) | exact ViewsB.of_drop 7 (by assumption) | exact ViewsB.of_drop 8 (by assumption) | exact ViewsB.of_drop 9 (by assumption) | exact ViewsB.of_drop 10 (by assumption) | exact ViewsB.of_drop 11 (by assumption) | exact ViewsB.of_drop 12 (by assumption) | exact ViewsB.sub (by first | exact ViewsB.own 0 rfl | exact ViewsB.own 1 rfl | exact ViewsB.own 2 rfl | exact ViewsB.own 3 rfl | exact ViewsB.own 4 rfl | exact ViewsB.own 5 rfl | assumption | exact ViewsB.nil _ | exact ViewsB.arr 0 rfl (by first | assumption | rfl | (simp; done)) (Nat.le_refl _) (by simp [maxLen]) | exact ViewsB.arr 1 rfl (by first | assumption | rfl | (simp; done)) (Nat.le_refl _) (by simp [maxLen]) | exact ViewsB.arr 2 rfl (by first | assumption | rfl | (simp; done)) (Nat.le_refl _) (by simp [maxLen]) | exact ViewsB.arr 3 rfl (by first | assumption | rfl | (simp; done)) (Nat.le_refl _) (by simp [maxLen]) | exact ViewsB.arr 4 rfl (by first | assumption | rfl | (simp; done)) (Nat.le_refl _) (by simp [maxLen]) | exact ViewsB.of_drop 1 (by assumption) | exact ViewsB.of_drop 2 (by assumption) | exact ViewsB.of_drop 3 (by assumption) | exact ViewsB.of_drop 4 (by assumption) | exact ViewsB.of_drop 5 (by assumption) | exact ViewsB.of_drop 6 (by assumption) | exact ViewsB.of_drop 7 (by assumption) | exact ViewsB.of_drop 8 (by assumption) | exact ViewsB.of_drop 9 (by assumption) | exact ViewsB.of_drop 10 (by assumption) | exact ViewsB.of_drop 11 (by assumption) | exact ViewsB.of_drop 12 (by assumption)) (by omega) (by first | omega | (simp; done) | (simp; omega)))) rfl ?_
      clear hD h a w; intro a w h hD
      refine d_take0 (listed' := #[true, true, true, true, true, true, true, false, false, false, false, false]) h hD 6 (by as_aux_lemma => kernel_rfl) rfl (by as_aux_lemma => kernel_rfl) (by as_aux_lemma => kernel_rfl) (by as_aux_lemma => kernel_rfl) (fun _ _ _ _ hh => hh) (fun w h => by first | exact r_move h rfl) rfl ?_
      clear hD h a w; intro a w h hD
      refine d_take (listed' := #[true, true, true, true, true, true, true, true, false, false, false, false]) h hD 7 _ (by as_aux_lemma => kernel_rfl) rfl (by as_aux_lemma => kernel_rfl) (by as_aux_lemma => kernel_rfl) (by as_aux_lemma => kernel_rfl) (fun _ _ _ _ hh => hh) h.2 (fun w hw => by first | exact r_b2sb ⟨h.1, hw⟩ rfl K.u_S_uint8 K.u_uint8 K.u_string (by first | exact ViewsB.own 0 rfl | exact ViewsB.own 1 rfl | exact ViewsB.own 2 rfl | exact ViewsB.own 3 rfl | exact ViewsB.own 4 rfl | exact ViewsB.own 5 rfl | assumption | exact ViewsB.nil _ | exact ViewsB.arr 0 rfl (by first | assumption | rfl | (simp; done)) (Nat.le_refl _) (by simp [maxLen]) | exact ViewsB.arr 1 rfl (by first | assumption | rfl | (simp; done)) (Nat.le_refl _) (by simp [maxLen]) | exact ViewsB.arr 2 rfl (by first | assumption | rfl | (simp; done)) (Nat.le_refl _) (by simp [maxLen]) | exact ViewsB.arr 3 rfl (by first | assumption | rfl | (simp; done)) (Nat.le_refl _) (by simp [maxLen]) | exact ViewsB.arr 4 rfl (by first | assumption | rfl | (simp; done)) (Nat.le_refl _) (by simp [maxLen]) | exact ViewsB.of_drop 1 (by assumption) | exact ViewsB.of_drop 2 (by assumption) | exact ViewsB.of_drop 3 (by assumption) | exact ViewsB.of_drop 4 (by assumption) | exact ViewsB.of_drop 5 (by assumption) | exact ViewsB.of_drop 6 (by assumption) | exact ViewsB.of_drop 7 (by assumption) | exact ViewsB.of_drop 8 (by assumption) | exact ViewsB.of_drop 9 (by assumption) | exact ViewsB.of_drop 10 (by assumption) | exact ViewsB.of_drop 11 (by assumption) | exact ViewsB.of_drop 12 (by assumption) | exact ViewsB.sub (by first | exact ViewsB.own 0 rfl | exact ViewsB.own 1 rfl | exact ViewsB.own 2 rfl | exact ViewsB.own 3 rfl | exact ViewsB.own 4 rfl | exact ViewsB.own 5 rfl | assumption | exact ViewsB.nil _ | exact ViewsB.arr 0 rfl (by first | assumption | rfl | (simp; done)) (Nat.le_refl _) (by simp [maxLen]) | exact ViewsB.arr 1 rfl (by first | assumption | rfl | (simp; done)) (Nat.le_refl _) (by simp [maxLen]) | exact ViewsB.arr 2 rfl (by first | assumption | rfl | (simp; done)) (Nat.le_refl _) (by simp [maxLen]) | exact ViewsB.arr 3 rfl (by first | assumption | rfl | (simp; done)) (Nat.le_refl _) (by simp [maxLen]) | exact ViewsB.arr 4 rfl (by first | assumption | rfl | (simp; done)) (Nat.le_refl _) (by simp [maxLen]) | exact ViewsB.of_drop 1 (by assumption) | exact ViewsB.of_drop 2 (by assumption) | exact ViewsB.of_drop 3 (by assumption) | exact ViewsB.of_drop 4 (by assumption) | exact ViewsB.of_drop 5 (by assumption) | exact ViewsB.of_drop 6 (by assumption) | exact ViewsB.of_drop 7 (by assumption) | exact ViewsB.of_drop 8 (by assumption) | exact ViewsB.of_drop 9 (by assumption) | exact ViewsB.of_drop 10 (by assumption) | exact ViewsB.of_drop 11 (by assumption) | exact ViewsB.of_drop 12 (by assumption)) (by omega) (by first | omega | (simp; done) | (simp; omega)))) rfl ?_
      clear hD h a w; intro a w h hD
      refine d_take0 (listed' := #[true, true, true, true, true, true, true, true, true, false, false, false]) h hD 8 (by as_aux_lemma => kernel_rfl) rfl (by as_aux_lemma => kernel_rfl) (by as_aux_lemma => kernel_rfl) (by as_aux_lemma => kernel_rfl) (fun _ _ _ _ hh => hh) (fun w h => by first | exact r_strcat h rfl rfl (by first | omega | (simp only [List.length_cons, List.length_nil]; omega) | (simp; done) | (simp; omega))) rfl ?_
      clear hD h a w; intro a w h hD
      refine d_take0 (listed' := #[true, true, true, true, true, true, true, true, true, false, false, true]) h hD 11 (by as_aux_lemma => kernel_rfl) rfl (by as_aux_lemma => kernel_rfl) (by as_aux_lemma => kernel_rfl) (by as_aux_lemma => kernel_rfl) (fun _ _ _ _ hh => hh) (fun w h => by first | exact r_move h rfl) rfl ?_
      clear hD h a w; intro a w h hD
      refine d_only (listed' := #[true, true, true, true, true, true, true, true, true, true, false, true]) 9 [true, false, true, false] (by as_aux_lemma => kernel_rfl) rfl rfl (by as_aux_lemma => kernel_rfl) (by as_aux_lemma => kernel_rfl) ?_
      refine op_buildSlice h K.u_S_string K.sz_string K.z_string rfl rfl rfl rfl rfl (by simp [Value.cells, bv, w32, w64, sv]) rfl ?_
      clear hD h a w; intro b44 a w h
      obtain ⟨xs, hxs⟩ : ∃ xs, xs = [str, (hexOf k).set (at_ % 64).toNat c, (((hexOf k).set (at_ % 64).toNat c).drop 0).take (63 - 0), (hexOf k).set (at_ % 64).toNat c ++ [48]] := ⟨_, rfl⟩
      have hxl : ∀ x ∈ xs, x.length ≤ 100 := by
        rw [hxs]; intro x hx
        simp only [List.mem_cons, List.not_mem_nil, or_false] at hx
        rcases hx with rfl | rfl | rfl | rfl <;> first | omega | (simp [hl]; done) | (simp [hl]; omega)
      have hx4 : xs.length = 4 := by rw [hxs]; rfl
      replace h := h.toOwnL (enc := sv) xs (NF.zero _) (by rw [hxs]; rfl) hx4.symm rfl
      refine d_pay (Paid.cons (by first | exact h.2 | exact h.2.drop 1 | exact h.2.drop 2 | exact h.2.drop 3 | exact h.2.drop 4 | exact h.2.drop 5 | exact h.2.drop 6 | exact h.2.drop 7) (Paid.cons (by first | exact h.2 | exact h.2.drop 1 | exact h.2.drop 2 | exact h.2.drop 3 | exact h.2.drop 4 | exact h.2.drop 5 | exact h.2.drop 6 | exact h.2.drop 7) (Paid.nil))) (fun hD => ?_)
      refine d_take (listed' := #[true, true, true, true, true, true, true, true, true, true, true, true]) h hD 10 _ (by as_aux_lemma => kernel_rfl) rfl (by as_aux_lemma => kernel_rfl) (by as_aux_lemma => kernel_rfl) (by as_aux_lemma => kernel_rfl) (fun _ _ _ _ hh => hh) h.2 (fun w hw => by first | exact r_lenV ⟨h.1, hw⟩ rfl K.u_S_string (by first | exact Views.own 0 rfl | exact Views.own 1 rfl | exact Views.own 2 rfl | exact Views.own 3 rfl | exact Views.own 4 rfl | exact Views.own 5 rfl | assumption | exact Views.of_drop 1 (by assumption) | exact Views.of_drop 2 (by assumption) | exact Views.of_drop 3 (by assumption) | exact Views.of_drop 4 (by assumption) | exact Views.of_drop 5 (by assumption) | exact Views.of_drop 6 (by assumption) | exact Views.of_drop 7 (by assumption) | exact Views.of_drop 8 (by assumption) | exact Views.of_drop 9 (by assumption) | exact Views.of_drop 10 (by assumption) | exact Views.of_drop 11 (by assumption) | exact Views.of_drop 12 (by assumption))) rfl ?_
      clear hD h a w; intro a w h hD
      refine d_done (by kernel_rfl) ?_
      clear hD
      refine c_then ?_
      refine c_block ?_
      obtain ⟨v44, hv44⟩ : ∃ v : Value, v = .slice (some ⟨b44, 0, none⟩) 4 4 := ⟨_, rfl⟩
      rw [← hv44, hx4] at h
      refine c_loopX h (X := Nat) (fun i => [(44, v44), (45, .int .i64 4), (46, .int .i64 (i : Int))])
        (fun i => OwnL sv v44 xs :: F) (fun i => i ≤ 4) (fun i => 4 - i) 0 ?_ (Nat.zero_le _) ?_
      · exact (h.mem (fun z => (z.rid 1).rid 1)).keep [44, 45, 46]
      clear h a w; intro i a w hx h
      as_aux_lemma =>
        refine c_seq (c_region ?_)
        refine wv h (r_bin h rfl rfl (B.lss_int)) rfl ?_
        clear h a w; intro a w h
        refine wnil (c_then ?_)
        refine c_seq ?_
        first
          | refine c_condD h rfl (fun ht3 => ?_) (fun ht3 => ?_)
          | refine c_condP h rfl (by first | (simp only [Bool.and_eq_true, Bool.or_eq_true, Bool.not_eq_true', decide_eq_true_eq, decide_eq_false_iff_not, ne_eq, Bool.not_eq_eq_eq_not, Bool.not_true, beq_iff_eq, bne_iff_ne]; exact Iff.rfl) | exact Iff.rfl) (fun ht3 => ?_) (fun ht3 => ?_)
        ·
          obtain ⟨tx, hx0⟩ : ∃ tx, xs.getD i [] = tx := ⟨_, rfl⟩
          have hx100 : tx.length ≤ 100 := by
            rw [← hx0, List.getD_eq_getElem?_getD, List.getElem?_eq_getElem (by omega)]; exact hxl _ (List.getElem_mem _)
          have hyl : (if hexOk tx = true then unhex tx else List.replicate 32 0).length = 32 := by
            split
            · rename_i q; exact unhex_len 32 tx (by simp [hexOk] at q; omega)
            · simp
          have hy1 : hexOk tx = true → hexOf (if hexOk tx = true then unhex tx else List.replicate 32 0) = tx := fun q => by
            rw [if_pos q]
            simp only [hexOk, Bool.and_eq_true, beq_iff_eq, List.all_eq_true, decide_eq_true_eq] at q
            exact hexOf_unhex 32 tx q.1 q.2
          have hy2 : hexOk tx = false → (if hexOk tx = true then unhex tx else List.replicate 32 0) = List.replicate 32 0 := fun q => by rw [q]; rfl
          have hok := hexOk_nib tx
          obtain ⟨y, hy⟩ : ∃ y, y = (if hexOk tx = true then unhex tx else List.replicate 32 0) := ⟨_, rfl⟩
          rw [← hy] at hyl hy1 hy2
          refine c_skip ?_
          refine c_then ?_
          refine c_seq ?_
          refine c_block ?_
          refine c_seq (c_region ?_)
          refine wv h (r_elP h rfl rfl K.u_S_string K.sz_string (by first | exact Views.own 0 rfl | exact Views.own 1 rfl | exact Views.own 2 rfl | exact Views.own 3 rfl | exact Views.own 4 rfl | exact Views.own 5 rfl | assumption | exact Views.of_drop 1 (by assumption) | exact Views.of_drop 2 (by assumption) | exact Views.of_drop 3 (by assumption) | exact Views.of_drop 4 (by assumption) | exact Views.of_drop 5 (by assumption) | exact Views.of_drop 6 (by assumption) | exact Views.of_drop 7 (by assumption) | exact Views.of_drop 8 (by assumption) | exact Views.of_drop 9 (by assumption) | exact Views.of_drop 10 (by assumption) | exact Views.of_drop 11 (by assumption) | exact Views.of_drop 12 (by assumption)) (by first | omega | (simp; done)) (by first | omega | (simp only [List.length_cons, List.length_nil]; omega) | (simp; done) | (simp; omega))) rfl ?_
          clear h a w; intro a w h
          refine wv h (r_els h rfl K.u_string rfl (by first | exact Views.own 0 rfl | exact Views.own 1 rfl | exact Views.own 2 rfl | exact Views.own 3 rfl | exact Views.own 4 rfl | exact Views.own 5 rfl | assumption | exact Views.of_drop 1 (by assumption) | exact Views.of_drop 2 (by assumption) | exact Views.of_drop 3 (by assumption) | exact Views.of_drop 4 (by assumption) | exact Views.of_drop 5 (by assumption) | exact Views.of_drop 6 (by assumption) | exact Views.of_drop 7 (by assumption) | exact Views.of_drop 8 (by assumption) | exact Views.of_drop 9 (by assumption) | exact Views.of_drop 10 (by assumption) | exact Views.of_drop 11 (by assumption) | exact Views.of_drop 12 (by assumption)) (by first | omega | (simp only [List.length_cons, List.length_nil]; omega) | (simp; done) | (simp; omega))) rfl ?_
          clear h a w; intro a w h
          rw [hx0] at h
          refine wv h (r_assign h rfl) rfl ?_
          clear h a w; intro a w h
          refine wnil (c_then ?_)
          refine c_seq (c_region ?_)
          refine wv h (r_move h rfl) rfl ?_
          clear h a w; intro a w h
          refine wl rfl (op_call h rfl K.go_stamp_Read (stamp_Read s _ _ _ h.2) rfl ?_)
          clear h a w; intro x a w hx h
          (try simp only [List.set_cons_zero, List.set_cons_succ] at h)
          rw [← hy] at h
          refine wv h (r_move h rfl) rfl ?_
          clear h a w; intro a w h
          refine wv h (r_extractN h rfl rfl) rfl ?_
          clear h a w; intro a w h
          refine wv h (r_extractN h rfl rfl) rfl ?_
          clear h a w; intro a w h
          refine wl rfl (op_alloc h K.z_api_Key rfl ?_)
          clear h a w; intro b12 a w h
          rw [show (Value.agg (Array.replicate 32 (Value.int .u8 0))).cells = arr8 (List.replicate 32 0) from (arr8_zero 32).symm] at h
          first
            | (refine wl rfl (op_storeA8 h rfl rfl K.sz_api_Key (by first | rfl | assumption | (simp; done) | (simp; omega) | omega) 0 rfl (by first | rfl | (simp [arr8]; done) | (simp [arr8]; omega) | (simp [arr8]; assumption)) ?_))
            | (refine wl rfl (op_storeA8 h rfl rfl K.sz_api_Key (by first | rfl | assumption | (simp; done) | (simp; omega) | omega) 1 rfl (by first | rfl | (simp [arr8]; done) | (simp [arr8]; omega) | (simp [arr8]; assumption)) ?_))
            | (refine wl rfl (op_storeA8 h rfl rfl K.sz_api_Key (by first | rfl | assumption | (simp; done) | (simp; omega) | omega) 2 rfl (by first | rfl | (simp [arr8]; done) | (simp [arr8]; omega) | (simp [arr8]; assumption)) ?_))
            | (refine wl rfl (op_storeA8 h rfl rfl K.sz_api_Key (by first | rfl | assumption | (simp; done) | (simp; omega) | omega) 3 rfl (by first | rfl | (simp [arr8]; done) | (simp [arr8]; omega) | (simp [arr8]; assumption)) ?_))
            | (refine wl rfl (op_storeA8 h rfl rfl K.sz_api_Key (by first | rfl | assumption | (simp; done) | (simp; omega) | omega) 4 rfl (by first | rfl | (simp [arr8]; done) | (simp [arr8]; omega) | (simp [arr8]; assumption)) ?_))
            | (refine wl rfl (op_storeA8 h rfl rfl K.sz_api_Key (by first | rfl | assumption | (simp; done) | (simp; omega) | omega) 5 rfl (by first | rfl | (simp [arr8]; done) | (simp [arr8]; omega) | (simp [arr8]; assumption)) ?_))
          clear h a w; intro a w h
          (try simp only [List.set_cons_zero, List.set_cons_succ] at h)
          refine wv h (r_assign h rfl) rfl ?_
          clear h a w; intro a w h
          refine wnil (c_then ?_)
          refine c_seq ?_
          refine c_seq (c_region ?_)
          refine wv h (r_move h rfl) rfl ?_
          clear h a w; intro a w h
          refine wv h (r_move h rfl) rfl ?_
          clear h a w; intro a w h
          refine wvG h (by first | exact .t rfl | exact .f rfl | exact .gt rfl | exact .gf rfl) (fun hg => by (try simp only [↓gval_on hg, ↓gval_and hg] at h); (have hg2 := hg; (try simp only [Bool.and_eq_true, Bool.or_eq_true, Bool.not_eq_true', decide_eq_true_eq, decide_eq_false_iff_not] at hg2)); first | exact r_loadA8 h rfl K.u_api_Key rfl K.sz_api_Key 0 rfl (by first | rfl | assumption | (simp; done) | (simp; omega) | omega) | exact r_loadA8 h rfl K.u_api_Key rfl K.sz_api_Key 1 rfl (by first | rfl | assumption | (simp; done) | (simp; omega) | omega) | exact r_loadA8 h rfl K.u_api_Key rfl K.sz_api_Key 2 rfl (by first | rfl | assumption | (simp; done) | (simp; omega) | omega) | exact r_loadA8 h rfl K.u_api_Key rfl K.sz_api_Key 3 rfl (by first | rfl | assumption | (simp; done) | (simp; omega) | omega) | exact r_loadA8 h rfl K.u_api_Key rfl K.sz_api_Key 4 rfl (by first | rfl | assumption | (simp; done) | (simp; omega) | omega) | exact r_loadA8 h rfl K.u_api_Key rfl K.sz_api_Key 5 rfl (by first | rfl | assumption | (simp; done) | (simp; omega) | omega) | exact r_loadCA h rfl K.u_api_Key rfl K.sz_api_Key (by assumption) (by first | rfl | assumption | (simp; done) | (simp; omega) | omega)) rfl ?_
          clear h a w; intro a w h
          refine wcG h (by first | exact .t rfl | exact .f rfl | exact .gt rfl | exact .gf rfl) K.go_stamp_Text (fun hg => by (try simp only [↓gval_on hg, ↓gval_and hg]); (have hg2 := hg; (try simp only [Bool.and_eq_true, Bool.or_eq_true, Bool.not_eq_true', decide_eq_true_eq, decide_eq_false_iff_not] at hg2)); exact ⟨_, rfl, stamp_Text s _ _ (by first | rfl | assumption | (simp; done) | (simp; omega) | omega) _ h.2⟩) rfl ?_
          clear h a w; intro a w h
          refine wvG h (by first | exact .t rfl | exact .f rfl | exact .gt rfl | exact .gf rfl) (fun hg => by (try simp only [↓gval_on hg, ↓gval_and hg] at h); (have hg2 := hg; (try simp only [Bool.and_eq_true, Bool.or_eq_true, Bool.not_eq_true', decide_eq_true_eq, decide_eq_false_iff_not] at hg2)); first | exact r_move h rfl) rfl ?_
          clear h a w; intro a w h
          refine wvG h (by first | exact .t rfl | exact .f rfl | exact .gt rfl | exact .gf rfl) (fun hg => by (try simp only [↓gval_on hg, ↓gval_and hg] at h); (have hg2 := hg; (try simp only [Bool.and_eq_true, Bool.or_eq_true, Bool.not_eq_true', decide_eq_true_eq, decide_eq_false_iff_not] at hg2)); first | exact r_strne h rfl rfl) rfl ?_
          clear h a w; intro a w h
          first
            | (refine wv h (r_pickA h rfl rfl rfl) rfl ?_)
            | (refine wv h (r_pickO h rfl rfl rfl) rfl ?_)
            | (refine wv h (r_pick_true h rfl rfl) rfl ?_)
            | (refine wv h (r_pick_false h rfl rfl) rfl ?_)
            | (refine wv h (r_pick h rfl rfl rfl) rfl ?_)
          clear h a w; intro a w h
          refine wv h (r_move h rfl) rfl ?_
          clear h a w; intro a w h
          refine wvG h (by first | exact .t rfl | exact .f rfl | exact .gt rfl | exact .gf rfl) (fun hg => by (try simp only [↓gval_on hg, ↓gval_and hg] at h); (have hg2 := hg; (try simp only [Bool.and_eq_true, Bool.or_eq_true, Bool.not_eq_true', decide_eq_true_eq, decide_eq_false_iff_not] at hg2)); first | exact r_move h rfl) rfl ?_
          clear h a w; intro a w h
          refine wvG h (by first | exact .t rfl | exact .f rfl | exact .gt rfl | exact .gf rfl) (fun hg => by (try simp only [↓gval_on hg, ↓gval_and hg] at h); (have hg2 := hg; (try simp only [Bool.and_eq_true, Bool.or_eq_true, Bool.not_eq_true', decide_eq_true_eq, decide_eq_false_iff_not] at hg2)); first | exact r_not h rfl) rfl ?_
          clear h a w; intro a w h
          refine wvG h (by first | exact .t rfl | exact .f rfl | exact .gt rfl | exact .gf rfl) (fun hg => by (try simp only [↓gval_on hg, ↓gval_and hg] at h); (have hg2 := hg; (try simp only [Bool.and_eq_true, Bool.or_eq_true, Bool.not_eq_true', decide_eq_true_eq, decide_eq_false_iff_not] at hg2)); first | exact r_move h rfl) rfl ?_
          clear h a w; intro a w h
          refine wvG h (by first | exact .t rfl | exact .f rfl | exact .gt rfl | exact .gf rfl) (fun hg => by (try simp only [↓gval_on hg, ↓gval_and hg] at h); (have hg2 := hg; (try simp only [Bool.and_eq_true, Bool.or_eq_true, Bool.not_eq_true', decide_eq_true_eq, decide_eq_false_iff_not] at hg2)); first | exact r_loadA8 h rfl K.u_api_Key rfl K.sz_api_Key 0 rfl (by first | rfl | assumption | (simp; done) | (simp; omega) | omega) | exact r_loadA8 h rfl K.u_api_Key rfl K.sz_api_Key 1 rfl (by first | rfl | assumption | (simp; done) | (simp; omega) | omega) | exact r_loadA8 h rfl K.u_api_Key rfl K.sz_api_Key 2 rfl (by first | rfl | assumption | (simp; done) | (simp; omega) | omega) | exact r_loadA8 h rfl K.u_api_Key rfl K.sz_api_Key 3 rfl (by first | rfl | assumption | (simp; done) | (simp; omega) | omega) | exact r_loadA8 h rfl K.u_api_Key rfl K.sz_api_Key 4 rfl (by first | rfl | assumption | (simp; done) | (simp; omega) | omega) | exact r_loadA8 h rfl K.u_api_Key rfl K.sz_api_Key 5 rfl (by first | rfl | assumption | (simp; done) | (simp; omega) | omega) | exact r_loadCA h rfl K.u_api_Key rfl K.sz_api_Key (by assumption) (by first | rfl | assumption | (simp; done) | (simp; omega) | omega)) rfl ?_
          clear h a w; intro a w h
          refine wvG h (by first | exact .t rfl | exact .f rfl | exact .gt rfl | exact .gf rfl) (fun hg => by (try simp only [↓gval_on hg, ↓gval_and hg] at h); (have hg2 := hg; (try simp only [Bool.and_eq_true, Bool.or_eq_true, Bool.not_eq_true', decide_eq_true_eq, decide_eq_false_iff_not] at hg2)); first | exact r_buildA h K.u_A32_uint8 K.z_A32_uint8 K.sz_uint8 rfl rfl) rfl ?_
          clear h a w; intro a w h
          rw [show (Value.agg (Array.replicate 32 (Value.int .u8 0))).cells = arr8 (List.replicate 32 0) from (arr8_zero 32).symm] at h
          refine wvG h (by first | exact .t rfl | exact .f rfl | exact .gt rfl | exact .gf rfl) (fun hg => by (try simp only [↓gval_on hg, ↓gval_and hg] at h); (have hg2 := hg; (try simp only [Bool.and_eq_true, Bool.or_eq_true, Bool.not_eq_true', decide_eq_true_eq, decide_eq_false_iff_not] at hg2)); first | exact r_arrne h rfl rfl K.u_api_Key K.u_uint8 K.sz_uint8 (by kernel_rfl) (by first | rfl | assumption | (simp; done) | (simp; omega) | omega) (by first | rfl | assumption | (simp; done) | (simp; omega) | omega)) rfl ?_
          clear h a w; intro a w h
          refine wvG h (by first | exact .t rfl | exact .f rfl | exact .gt rfl | exact .gf rfl) (fun hg => by (try simp only [↓gval_on hg, ↓gval_and hg] at h); (have hg2 := hg; (try simp only [Bool.and_eq_true, Bool.or_eq_true, Bool.not_eq_true', decide_eq_true_eq, decide_eq_false_iff_not] at hg2)); first | exact r_pickA h rfl rfl rfl | exact r_pickO h rfl rfl rfl | exact r_pick_true h rfl rfl | exact r_pick_false h rfl rfl | exact r_pick h rfl rfl rfl) rfl ?_
          clear h a w; intro a w h
          first
            | (refine wv h (r_pickA h rfl rfl rfl) rfl ?_)
            | (refine wv h (r_pickO h rfl rfl rfl) rfl ?_)
            | (refine wv h (r_pick_true h rfl rfl) rfl ?_)
            | (refine wv h (r_pick_false h rfl rfl) rfl ?_)
            | (refine wv h (r_pick h rfl rfl rfl) rfl ?_)
          clear h a w; intro a w h
          refine wnil (c_then ?_)
          first
            | refine c_condD h rfl (fun ht4 => ?_) (fun ht4 => ?_)
            | refine c_condP h rfl (by first | (simp only [Bool.and_eq_true, Bool.or_eq_true, Bool.not_eq_true', decide_eq_true_eq, decide_eq_false_iff_not, ne_eq, Bool.not_eq_eq_eq_not, Bool.not_true, beq_iff_eq, bne_iff_ne]; exact Iff.rfl) | exact Iff.rfl) (fun ht4 => ?_) (fun ht4 => ?_)
          ·
            exfalso
            cases q : hexOk tx with
            | true => rw [q, hy1 q] at ht4; simp at ht4
            | false => rw [q, hy2 q] at ht4; simp at ht4
          ·
            refine c_skip ?_
            refine c_then ?_
            refine c_seq (c_region ?_)
            refine wv h (r_move h rfl) rfl ?_
            clear h a w; intro a w h
            refine wv h (r_lenT h rfl K.u_string) rfl ?_
            clear h a w; intro a w h
            refine wv h (r_bin h rfl rfl (B.eql_int)) rfl ?_
            clear h a w; intro a w h
            refine wv h (r_assign h rfl) rfl ?_
            clear h a w; intro a w h
            refine wnil (c_then ?_)
            refine c_seq ?_
            refine c_seq (c_region ?_)
            refine wv h (r_assign h rfl) rfl ?_
            clear h a w; intro a w h
            refine wnil (c_then ?_)
            refine c_block ?_
            refine c_loopX h (X := Nat) (fun j => [(11, sv tx), (12, .pointer (some ⟨b12, 0, none⟩)), (13, .bool (hexOk tx)), (14, .bool (decide ((tx.length : Int) = 64) && (tx.take j).all nibOk)), (15, .int .i64 (j : Int)), (44, v44), (45, .int .i64 4), (46, .int .i64 (i : Int))])
              (fun j => Blk b12 (.cells (arr8 y) 25) :: OwnL sv v44 xs :: F) (fun j => j ≤ tx.length) (fun j => tx.length - j) 0 (by rw [List.take_zero, List.all_nil, Bool.and_true]; exact h.keep [11, 12, 13, 14, 15, 44, 45, 46]) (Nat.zero_le _) ?_
            clear h a w; intro j a w hx2 h
            as_aux_lemma =>
              refine c_seq ?_
              refine c_seq (c_region ?_)
              refine wv h (r_move h rfl) rfl ?_
              clear h a w; intro a w h
              refine wv h (r_move h rfl) rfl ?_
              clear h a w; intro a w h
              refine wv h (r_lenT h rfl K.u_string) rfl ?_
              clear h a w; intro a w h
              refine wv h (r_bin h rfl rfl (B.lss_int)) rfl ?_
              clear h a w; intro a w h
              refine wnil (c_then ?_)
              first
                | refine c_condD h rfl (fun ht5 => ?_) (fun ht5 => ?_)
                | refine c_condP h rfl (by first | (simp only [Bool.and_eq_true, Bool.or_eq_true, Bool.not_eq_true', decide_eq_true_eq, decide_eq_false_iff_not, ne_eq, Bool.not_eq_eq_eq_not, Bool.not_true, beq_iff_eq, bne_iff_ne]; exact Iff.rfl) | exact Iff.rfl) (fun ht5 => ?_) (fun ht5 => ?_)
              ·
                have hts := take_snoc tx 0 j (by omega)
                refine c_skip ?_
                refine c_then ?_
                refine c_seq ?_
                refine c_block ?_
                refine c_region ?_
                refine wv h (r_move h rfl) rfl ?_
                clear h a w; intro a w h
                refine wv h (r_move h rfl) rfl ?_
                clear h a w; intro a w h
                refine wvG h (by first | exact .t rfl | exact .f rfl | exact .gt rfl | exact .gf rfl) (fun hg => by (try simp only [↓gval_on hg, ↓gval_and hg] at h); (have hg2 := hg; (try simp only [Bool.and_eq_true, Bool.or_eq_true, Bool.not_eq_true', decide_eq_true_eq, decide_eq_false_iff_not] at hg2)); first | exact r_move h rfl) rfl ?_
                clear h a w; intro a w h
                refine wvG h (by first | exact .t rfl | exact .f rfl | exact .gt rfl | exact .gf rfl) (fun hg => by (try simp only [↓gval_on hg, ↓gval_and hg] at h); (have hg2 := hg; (try simp only [Bool.and_eq_true, Bool.or_eq_true, Bool.not_eq_true', decide_eq_true_eq, decide_eq_false_iff_not] at hg2)); first | exact r_move h rfl) rfl ?_
                clear h a w; intro a w h
                refine wvG h (by first | exact .t rfl | exact .f rfl | exact .gt rfl | exact .gf rfl) (fun hg => by (try simp only [↓gval_on hg, ↓gval_and hg] at h); (have hg2 := hg; (try simp only [Bool.and_eq_true, Bool.or_eq_true, Bool.not_eq_true', decide_eq_true_eq, decide_eq_false_iff_not] at hg2)); first | exact r_ixT h rfl rfl K.u_string (by omega) (by first | omega | (simp only [List.length_cons, List.length_nil]; omega) | (simp; done) | (simp; omega))) rfl ?_
                clear h a w; intro a w h
                refine wvG h (by first | exact .t rfl | exact .f rfl | exact .gt rfl | exact .gf rfl) (fun hg => by (try simp only [↓gval_on hg, ↓gval_and hg] at h); (have hg2 := hg; (try simp only [Bool.and_eq_true, Bool.or_eq_true, Bool.not_eq_true', decide_eq_true_eq, decide_eq_false_iff_not] at hg2)); first | exact r_bin h rfl rfl (B.geq_u8 (y := 48))) rfl ?_
                clear h a w; intro a w h
                refine wvG h (by first | exact .t rfl | exact .f rfl | exact .gt rfl | exact .gf rfl) (fun hg => by (try simp only [↓gval_on hg, ↓gval_and hg] at h); (have hg2 := hg; (try simp only [Bool.and_eq_true, Bool.or_eq_true, Bool.not_eq_true', decide_eq_true_eq, decide_eq_false_iff_not] at hg2)); first | exact r_move h rfl) rfl ?_
                clear h a w; intro a w h
                refine wvG h (by first | exact .t rfl | exact .f rfl | exact .gt rfl | exact .gf rfl) (fun hg => by (try simp only [↓gval_on hg, ↓gval_and hg] at h); (have hg2 := hg; (try simp only [Bool.and_eq_true, Bool.or_eq_true, Bool.not_eq_true', decide_eq_true_eq, decide_eq_false_iff_not] at hg2)); first | exact r_move h rfl) rfl ?_
                clear h a w; intro a w h
                refine wvG h (by first | exact .t rfl | exact .f rfl | exact .gt rfl | exact .gf rfl) (fun hg => by (try simp only [↓gval_on hg, ↓gval_and hg] at h); (have hg2 := hg; (try simp only [Bool.and_eq_true, Bool.or_eq_true, Bool.not_eq_true', decide_eq_true_eq, decide_eq_false_iff_not] at hg2)); first | exact r_move h rfl) rfl ?_
                clear h a w; intro a w h
                refine wvG h (by first | exact .t rfl | exact .f rfl | exact .gt rfl | exact .gf rfl) (fun hg => by (try simp only [↓gval_on hg, ↓gval_and hg] at h); (have hg2 := hg; (try simp only [Bool.and_eq_true, Bool.or_eq_true, Bool.not_eq_true', decide_eq_true_eq, decide_eq_false_iff_not] at hg2)); first | exact r_ixT h rfl rfl K.u_string (by omega) (by first | omega | (simp only [List.length_cons, List.length_nil]; omega) | (simp; done) | (simp; omega))) rfl ?_
                clear h a w; intro a w h
                refine wvG h (by first | exact .t rfl | exact .f rfl | exact .gt rfl | exact .gf rfl) (fun hg => by (try simp only [↓gval_on hg, ↓gval_and hg] at h); (have hg2 := hg; (try simp only [Bool.and_eq_true, Bool.or_eq_true, Bool.not_eq_true', decide_eq_true_eq, decide_eq_false_iff_not] at hg2)); first | exact r_bin h rfl rfl (B.leq_u8 (y := 57))) rfl ?_
                clear h a w; intro a w h
                refine wvG h (by first | exact .t rfl | exact .f rfl | exact .gt rfl | exact .gf rfl) (fun hg => by (try simp only [↓gval_on hg, ↓gval_and hg] at h); (have hg2 := hg; (try simp only [Bool.and_eq_true, Bool.or_eq_true, Bool.not_eq_true', decide_eq_true_eq, decide_eq_false_iff_not] at hg2)); first | exact r_pickA h rfl rfl rfl | exact r_pickO h rfl rfl rfl | exact r_pick_true h rfl rfl | exact r_pick_false h rfl rfl | exact r_pick h rfl rfl rfl) rfl ?_
                clear h a w; intro a w h
                refine wvG h (by first | exact .t rfl | exact .f rfl | exact .gt rfl | exact .gf rfl) (fun hg => by (try simp only [↓gval_on hg, ↓gval_and hg] at h); (have hg2 := hg; (try simp only [Bool.and_eq_true, Bool.or_eq_true, Bool.not_eq_true', decide_eq_true_eq, decide_eq_false_iff_not] at hg2)); first | exact r_move h rfl) rfl ?_
                clear h a w; intro a w h
                refine wvG h (by first | exact .t rfl | exact .f rfl | exact .gt rfl | exact .gf rfl) (fun hg => by (try simp only [↓gval_on hg, ↓gval_and hg] at h); (have hg2 := hg; (try simp only [Bool.and_eq_true, Bool.or_eq_true, Bool.not_eq_true', decide_eq_true_eq, decide_eq_false_iff_not] at hg2)); first | exact r_move h rfl) rfl ?_
                clear h a w; intro a w h
                refine wvG h (by first | exact .t rfl | exact .f rfl | exact .gt rfl | exact .gf rfl) (fun hg => by (try simp only [↓gval_on hg, ↓gval_and hg] at h); (have hg2 := hg; (try simp only [Bool.and_eq_true, Bool.or_eq_true, Bool.not_eq_true', decide_eq_true_eq, decide_eq_false_iff_not] at hg2)); first | exact r_move h rfl) rfl ?_
                clear h a w; intro a w h
                refine wvG h (by first | exact .t rfl | exact .f rfl | exact .gt rfl | exact .gf rfl) (fun hg => by (try simp only [↓gval_on hg, ↓gval_and hg] at h); (have hg2 := hg; (try simp only [Bool.and_eq_true, Bool.or_eq_true, Bool.not_eq_true', decide_eq_true_eq, decide_eq_false_iff_not] at hg2)); first | exact r_ixT h rfl rfl K.u_string (by omega) (by first | omega | (simp only [List.length_cons, List.length_nil]; omega) | (simp; done) | (simp; omega))) rfl ?_
                clear h a w; intro a w h
                refine wvG h (by first | exact .t rfl | exact .f rfl | exact .gt rfl | exact .gf rfl) (fun hg => by (try simp only [↓gval_on hg, ↓gval_and hg] at h); (have hg2 := hg; (try simp only [Bool.and_eq_true, Bool.or_eq_true, Bool.not_eq_true', decide_eq_true_eq, decide_eq_false_iff_not] at hg2)); first | exact r_bin h rfl rfl (B.geq_u8 (y := 97))) rfl ?_
                clear h a w; intro a w h
                refine wvG h (by first | exact .t rfl | exact .f rfl | exact .gt rfl | exact .gf rfl) (fun hg => by (try simp only [↓gval_on hg, ↓gval_and hg] at h); (have hg2 := hg; (try simp only [Bool.and_eq_true, Bool.or_eq_true, Bool.not_eq_true', decide_eq_true_eq, decide_eq_false_iff_not] at hg2)); first | exact r_move h rfl) rfl ?_
                clear h a w; intro a w h
                refine wvG h (by first | exact .t rfl | exact .f rfl | exact .gt rfl | exact .gf rfl) (fun hg => by (try simp only [↓gval_on hg, ↓gval_and hg] at h); (have hg2 := hg; (try simp only [Bool.and_eq_true, Bool.or_eq_true, Bool.not_eq_true', decide_eq_true_eq, decide_eq_false_iff_not] at hg2)); first | exact r_move h rfl) rfl ?_
                clear h a w; intro a w h
                refine wvG h (by first | exact .t rfl | exact .f rfl | exact .gt rfl | exact .gf rfl) (fun hg => by (try simp only [↓gval_on hg, ↓gval_and hg] at h); (have hg2 := hg; (try simp only [Bool.and_eq_true, Bool.or_eq_true, Bool.not_eq_true', decide_eq_true_eq, decide_eq_false_iff_not] at hg2)); first | exact r_move h rfl) rfl ?_
                clear h a w; intro a w h
                refine wvG h (by first | exact .t rfl | exact .f rfl | exact .gt rfl | exact .gf rfl) (fun hg => by (try simp only [↓gval_on hg, ↓gval_and hg] at h); (have hg2 := hg; (try simp only [Bool.and_eq_true, Bool.or_eq_true, Bool.not_eq_true', decide_eq_true_eq, decide_eq_false_iff_not] at hg2)); first | exact r_ixT h rfl rfl K.u_string (by omega) (by first | omega | (simp only [List.length_cons, List.length_nil]; omega) | (simp; done) | (simp; omega))) rfl ?_
                clear h a w; intro a w h
                refine wvG h (by first | exact .t rfl | exact .f rfl | exact .gt rfl | exact .gf rfl) (fun hg => by (try simp only [↓gval_on hg, ↓gval_and hg] at h); (have hg2 := hg; (try simp only [Bool.and_eq_true, Bool.or_eq_true, Bool.not_eq_true', decide_eq_true_eq, decide_eq_false_iff_not] at hg2)); first | exact r_bin h rfl rfl (B.leq_u8 (y := 102))) rfl ?_
                clear h a w; intro a w h
                refine wvG h (by first | exact .t rfl | exact .f rfl | exact .gt rfl | exact .gf rfl) (fun hg => by (try simp only [↓gval_on hg, ↓gval_and hg] at h); (have hg2 := hg; (try simp only [Bool.and_eq_true, Bool.or_eq_true, Bool.not_eq_true', decide_eq_true_eq, decide_eq_false_iff_not] at hg2)); first | exact r_pickA h rfl rfl rfl | exact r_pickO h rfl rfl rfl | exact r_pick_true h rfl rfl | exact r_pick_false h rfl rfl | exact r_pick h rfl rfl rfl) rfl ?_
                clear h a w; intro a w h
                refine wvG h (by first | exact .t rfl | exact .f rfl | exact .gt rfl | exact .gf rfl) (fun hg => by (try simp only [↓gval_on hg, ↓gval_and hg] at h); (have hg2 := hg; (try simp only [Bool.and_eq_true, Bool.or_eq_true, Bool.not_eq_true', decide_eq_true_eq, decide_eq_false_iff_not] at hg2)); first | exact r_pickA h rfl rfl rfl | exact r_pickO h rfl rfl rfl | exact r_pick_true h rfl rfl | exact r_pick_false h rfl rfl | exact r_pick h rfl rfl rfl) rfl ?_
                clear h a w; intro a w h
                first
                  | (refine wv h (r_pickA h rfl rfl rfl) rfl ?_)
                  | (refine wv h (r_pickO h rfl rfl rfl) rfl ?_)
                  | (refine wv h (r_pick_true h rfl rfl) rfl ?_)
                  | (refine wv h (r_pick_false h rfl rfl) rfl ?_)
                  | (refine wv h (r_pick h rfl rfl rfl) rfl ?_)
                clear h a w; intro a w h
                refine wv h (r_assign h rfl) rfl ?_
                clear h a w; intro a w h
                refine wnil ?_
                refine b_normal ?_
                refine c_then ?_
                refine c_region ?_
                refine wv h (r_move h rfl) rfl ?_
                clear h a w; intro a w h
                refine wv h (r_bin h rfl rfl (B.add_i64 (by omega) (by omega))) rfl ?_
                clear h a w; intro a w h
                refine wv h (r_assign h rfl) rfl ?_
                clear h a w; intro a w h
                refine wnil ?_
                refine ⟨j + 1, ?_, by show j + 1 ≤ tx.length; omega, by show tx.length - (j + 1) < tx.length - j; omega⟩
                rw [hts, List.all_append]
                simp only [List.all_cons, List.all_nil, Bool.and_true, ← Bool.and_assoc]
                exact h.keep [11, 12, 13, 14, 15, 44, 45, 46]
              ·
                obtain rfl : j = tx.length := by omega
                rw [List.take_length] at h
                refine c_exit ?_
                refine e_then ?_
                refine e_then ?_
                refine e_here ?_
                refine c_then ?_
                refine c_seq (c_region ?_)
                refine wv h (r_move h rfl) rfl ?_
                clear h a w; intro a w h
                refine wv h (r_move h rfl) rfl ?_
                clear h a w; intro a w h
                refine wv h (r_boolne h K.u_bool rfl rfl) rfl ?_
                clear h a w; intro a w h
                refine wnil (c_then ?_)
                first
                  | refine c_condD h rfl (fun ht6 => ?_) (fun ht6 => ?_)
                  | refine c_condP h rfl (by first | (simp only [Bool.and_eq_true, Bool.or_eq_true, Bool.not_eq_true', decide_eq_true_eq, decide_eq_false_iff_not, ne_eq, Bool.not_eq_eq_eq_not, Bool.not_true, beq_iff_eq, bne_iff_ne]; exact Iff.rfl) | exact Iff.rfl) (fun ht6 => ?_) (fun ht6 => ?_)
                ·
                  exfalso
                  have e64 : decide ((tx.length : Int) = 64) = decide (tx.length = 64) := decide_eq_decide.2 (by omega)
                  rw [e64, ← hok] at ht6
                  exact ht6 rfl
                ·
                  refine c_skip ?_
                  refine b_normal ?_
                  refine c_then ?_
                  refine c_region ?_
                  refine wv h (r_bin h rfl rfl (B.add_i64 (by omega) (by omega))) rfl ?_
                  clear h a w; intro a w h
                  refine wv h (r_move h rfl) rfl ?_
                  clear h a w; intro a w h
                  refine wnil ?_
                  exact ⟨i + 1, (h.drop 1).keep [44, 45, 46], by show i + 1 ≤ 4; omega, by show 4 - (i + 1) < 4 - i; omega⟩
        ·
          refine c_exit ?_
          refine e_then ?_
          refine e_then ?_
          refine e_here ?_
          refine c_then ?_
          refine c_seq (c_region ?_)
          refine wv h (r_assign h rfl) rfl ?_
          clear h a w; intro a w h
          refine wnil (c_then ?_)
          refine c_ret ?_
          exact ret1 h rfl rfl ⟨(), rfl, h.2.drop 1, trivial⟩
end Go.Proofs.K
