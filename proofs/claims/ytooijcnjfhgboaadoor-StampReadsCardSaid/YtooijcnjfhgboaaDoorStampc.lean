/- The contracts of package stamp: a key's text, and back; which key is ahead. -/
import Derived.Test.YtooijcnjfhgboaaDoorStampb
set_option linter.unusedVariables false
set_option linter.unusedSimpArgs false
set_option maxRecDepth 10000
set_option maxHeartbeats 1000000
namespace Go.Proofs.K
open Go.Sl

theorem stamp_nibble (s w : World) (c : UInt8) (F : List HItem) (hs : Sat s w F) :
    Calls P n_stamp_nibble #[bv c] w (Ret s (fun _ : Unit => bv (nib c)) (fun _ => F) (fun _ => True)) := by
  refine enter K.fn_stamp_nibble rfl K.nt_stamp_nibble rfl hs ?_
  clear hs w; intro a w h
  refine c_seq (c_region ?_)
  refine wv h (r_assign h rfl) rfl ?_
  clear h a w; intro a w h
  refine wnil (c_then ?_)
  refine c_seq ?_
  refine c_block ?_
  refine c_seq (c_region ?_)
  refine wv h (r_move h rfl) rfl ?_
  clear h a w; intro a w h
  refine wv h (r_bin h rfl rfl (B.geq_u8 (y := 48))) rfl ?_
  clear h a w; intro a w h
  refine wv h (r_move h rfl) rfl ?_
  clear h a w; intro a w h
  refine wvG h (by first | exact .t rfl | exact .f rfl | exact .gt rfl | exact .gf rfl) (fun hg => by (try simp only [gval_on hg, gval_and hg] at h); (have hg2 := hg; (try simp only [Bool.and_eq_true, Bool.or_eq_true, Bool.not_eq_true', decide_eq_true_eq, decide_eq_false_iff_not] at hg2)); first | exact r_move h rfl) rfl ?_
  clear h a w; intro a w h
  refine wvG h (by first | exact .t rfl | exact .f rfl | exact .gt rfl | exact .gf rfl) (fun hg => by (try simp only [gval_on hg, gval_and hg] at h); (have hg2 := hg; (try simp only [Bool.and_eq_true, Bool.or_eq_true, Bool.not_eq_true', decide_eq_true_eq, decide_eq_false_iff_not] at hg2)); first | exact r_bin h rfl rfl (B.leq_u8 (y := 57))) rfl ?_
  clear h a w; intro a w h
  first
    | (refine wv h (r_pickA h rfl rfl rfl) rfl ?_)
    | (refine wv h (r_pickO h rfl rfl rfl) rfl ?_)
    | (refine wv h (r_pick_true h rfl rfl) rfl ?_)
    | (refine wv h (r_pick_false h rfl rfl) rfl ?_)
    | (refine wv h (r_pick h rfl rfl rfl) rfl ?_)
  clear h a w; intro a w h
  refine wv h (r_assign h rfl) rfl ?_
  clear h a w; intro a w h
  refine wnil (c_then ?_)
  first
    | refine c_condD h rfl (fun ht1 => ?_) (fun ht1 => ?_)
    | refine c_condP h rfl (by first | (simp only [Bool.and_eq_true, Bool.or_eq_true, Bool.not_eq_true', decide_eq_true_eq, decide_eq_false_iff_not, ne_eq, Bool.not_eq_eq_eq_not, Bool.not_true, beq_iff_eq, bne_iff_ne]; exact Iff.rfl) | exact Iff.rfl) (fun ht1 => ?_) (fun ht1 => ?_)
  ·
    as_aux_lemma =>
      refine c_seq (c_region ?_)
      refine wv h (r_move h rfl) rfl ?_
      clear h a w; intro a w h
      refine wv h (r_bin h rfl rfl (B.sub_u8 (y := 48))) rfl ?_
      clear h a w; intro a w h
      refine wv h (r_assign h rfl) rfl ?_
      clear h a w; intro a w h
      refine wnil (c_then ?_)
      refine c_ret ?_
      exact ret1 h rfl rfl ⟨(), by rw [nib, if_pos ht1], h.2, trivial⟩
  ·
    refine c_seq (c_region ?_)
    refine wv h (r_move h rfl) rfl ?_
    clear h a w; intro a w h
    refine wv h (r_bin h rfl rfl (B.geq_u8 (y := 97))) rfl ?_
    clear h a w; intro a w h
    refine wv h (r_move h rfl) rfl ?_
    clear h a w; intro a w h
    refine wvG h (by first | exact .t rfl | exact .f rfl | exact .gt rfl | exact .gf rfl) (fun hg => by (try simp only [gval_on hg, gval_and hg] at h); (have hg2 := hg; (try simp only [Bool.and_eq_true, Bool.or_eq_true, Bool.not_eq_true', decide_eq_true_eq, decide_eq_false_iff_not] at hg2)); first | exact r_move h rfl) rfl ?_
    clear h a w; intro a w h
    refine wvG h (by first | exact .t rfl | exact .f rfl | exact .gt rfl | exact .gf rfl) (fun hg => by (try simp only [gval_on hg, gval_and hg] at h); (have hg2 := hg; (try simp only [Bool.and_eq_true, Bool.or_eq_true, Bool.not_eq_true', decide_eq_true_eq, decide_eq_false_iff_not] at hg2)); first | exact r_bin h rfl rfl (B.leq_u8 (y := 102))) rfl ?_
    clear h a w; intro a w h
    first
      | (refine wv h (r_pickA h rfl rfl rfl) rfl ?_)
      | (refine wv h (r_pickO h rfl rfl rfl) rfl ?_)
      | (refine wv h (r_pick_true h rfl rfl) rfl ?_)
      | (refine wv h (r_pick_false h rfl rfl) rfl ?_)
      | (refine wv h (r_pick h rfl rfl rfl) rfl ?_)
    clear h a w; intro a w h
    refine wv h (r_assign h rfl) rfl ?_
    clear h a w; intro a w h
    refine wnil (c_then ?_)
    first
      | refine c_condD h rfl (fun ht2 => ?_) (fun ht2 => ?_)
      | refine c_condP h rfl (by first | (simp only [Bool.and_eq_true, Bool.or_eq_true, Bool.not_eq_true', decide_eq_true_eq, decide_eq_false_iff_not, ne_eq, Bool.not_eq_eq_eq_not, Bool.not_true, beq_iff_eq, bne_iff_ne]; exact Iff.rfl) | exact Iff.rfl) (fun ht2 => ?_) (fun ht2 => ?_)
    ·
      as_aux_lemma =>
        refine c_seq (c_region ?_)
        refine wv h (r_move h rfl) rfl ?_
        clear h a w; intro a w h
        refine wv h (r_bin h rfl rfl (B.sub_u8 (y := 97))) rfl ?_
        clear h a w; intro a w h
        refine wv h (r_bin h rfl rfl (B.add_u8 (y := 10))) rfl ?_
        clear h a w; intro a w h
        refine wv h (r_assign h rfl) rfl ?_
        clear h a w; intro a w h
        refine wnil (c_then ?_)
        refine c_ret ?_
        exact ret1 h rfl rfl ⟨(), by rw [nib, if_neg ht1, if_pos ht2], h.2, trivial⟩
    ·
      refine c_skip ?_
      refine b_normal ?_
      refine c_then ?_
      refine c_seq (c_region ?_)
      refine wv h (r_assign h rfl) rfl ?_
      clear h a w; intro a w h
      refine wnil (c_then ?_)
      refine c_ret ?_
      exact ret1 h rfl rfl ⟨(), by rw [nib, if_neg ht1, if_neg ht2]; rfl, h.2, trivial⟩

theorem stamp_Text (s w : World) (k : List UInt8) (hk : k.length = 32) (F : List HItem) (hs : Sat s w F) :
    Calls P n_stamp_Text #[.agg (arr8 k)] w (Ret s (fun _ : Unit => sv (hexOf k)) (fun _ => F) (fun _ => True)) := by
  refine enter K.fn_stamp_Text rfl K.nt_stamp_Text rfl hs ?_
  clear hs w; intro a w h
  refine c_seq (c_region ?_)
  refine wl rfl (op_box h rfl rfl ?_)
  clear h a w; intro b1 a w h
  try simp only [Value.cells] at h
  refine wv h (r_assign h rfl) rfl ?_
  clear h a w; intro a w h
  refine wnil (c_then ?_)
  refine c_seq (c_region ?_)
  refine wv h (r_assign h rfl) rfl ?_
  clear h a w; intro a w h
  replace h := h.addNilb
  refine wnil (c_then ?_)
  refine c_seq ?_
  refine c_seq (c_region ?_)
  first
    | (refine wv h (r_loadA8 h rfl K.u_api_Key rfl K.sz_api_Key 0 rfl (by first | rfl | assumption | (simp; done) | (simp; omega) | omega)) rfl ?_)
    | (refine wv h (r_loadA8 h rfl K.u_api_Key rfl K.sz_api_Key 1 rfl (by first | rfl | assumption | (simp; done) | (simp; omega) | omega)) rfl ?_)
    | (refine wv h (r_loadA8 h rfl K.u_api_Key rfl K.sz_api_Key 2 rfl (by first | rfl | assumption | (simp; done) | (simp; omega) | omega)) rfl ?_)
    | (refine wv h (r_loadA8 h rfl K.u_api_Key rfl K.sz_api_Key 3 rfl (by first | rfl | assumption | (simp; done) | (simp; omega) | omega)) rfl ?_)
    | (refine wv h (r_loadA8 h rfl K.u_api_Key rfl K.sz_api_Key 4 rfl (by first | rfl | assumption | (simp; done) | (simp; omega) | omega)) rfl ?_)
    | (refine wv h (r_loadA8 h rfl K.u_api_Key rfl K.sz_api_Key 5 rfl (by first | rfl | assumption | (simp; done) | (simp; omega) | omega)) rfl ?_)
    | (refine wv h (r_loadCA h rfl K.u_api_Key rfl K.sz_api_Key (by assumption) (by first | rfl | assumption | (simp; done) | (simp; omega) | omega)) rfl ?_)
  clear h a w; intro a w h
  refine wv h (r_move h rfl) rfl ?_
  clear h a w; intro a w h
  generalize hG : (Blk b1 (.cells (arr8 k) t_api_Key) :: F) = G at h
  refine wnil (c_then ?_)
  refine c_block ?_
  refine c_loopX h (X := Nat × Value) (fun x => [(3, x.2), (6, .agg (arr8 k)), (7, .int .i64 (x.1 : Int))])
    (fun x => OwnB x.2 (hexOf (k.take x.1)) :: G) (fun x => x.1 ≤ 32) (fun x => 32 - x.1) (0, .slice none 0 0) (h.keep [3, 6, 7]) (Nat.zero_le _) ?_
  clear h a w; intro x a w hx h
  obtain ⟨i, v⟩ := x
  replace hx : i ≤ 32 := hx
  dsimp only at h
  as_aux_lemma =>
    refine c_seq (c_region ?_)
    refine wv h (r_bin h rfl rfl (B.lss_int)) rfl ?_
    clear h a w; intro a w h
    refine wnil (c_then ?_)
    refine c_seq ?_
    first
      | refine c_condD h rfl (fun ht1 => ?_) (fun ht1 => ?_)
      | refine c_condP h rfl (by first | (simp only [Bool.and_eq_true, Bool.or_eq_true, Bool.not_eq_true', decide_eq_true_eq, decide_eq_false_iff_not, ne_eq, Bool.not_eq_eq_eq_not, Bool.not_true, beq_iff_eq, bne_iff_ne]; exact Iff.rfl) | exact Iff.rfl) (fun ht1 => ?_) (fun ht1 => ?_)
    ·
      have hts := take_snoc k 0 i (by omega)
      refine c_skip ?_
      refine c_then ?_
      refine c_seq ?_
      refine c_block ?_
      refine c_seq (c_region ?_)
      refine wv h (r_ix8 h rfl rfl K.u_api_Key K.u_uint8 K.sz_uint8 rfl (by omega) (by first | omega | (simp only [List.length_cons, List.length_nil]; omega) | (simp; done) | (simp; omega)) (by first | rfl | assumption | (simp; done) | (simp; omega) | omega)) rfl ?_
      clear h a w; intro a w h
      generalize k.getD i 0 = b at h hts
      have hb := b.toNat_lt
      have hb1 := hi_nat b
      have hb2 := lo_nat b
      have hl : (hexOf (k.take i)).length = 2 * i := by rw [hexOf_len, List.length_take]; omega
      refine wv h (r_assign h rfl) rfl ?_
      clear h a w; intro a w h
      refine wnil (c_then ?_)
      refine c_held (G) 10 K.mixed rfl h ?_
      clear h a w; intro a w h
      refine h_take (listed' := #[true, false, false, false, false, false, false, false, false, false]) h 0 (by as_aux_lemma => kernel_rfl) rfl (by as_aux_lemma => kernel_rfl) (by as_aux_lemma => kernel_rfl) (by as_aux_lemma => kernel_rfl) (fun _ _ _ hh => hh) (by first | exact h.2 | exact h.2.drop 1 | exact h.2.drop 2 | exact h.2.drop 3 | exact h.2.drop 4 | exact h.2.drop 5 | exact h.2.drop 6) (fun w hw => r_move ⟨h.1, hw⟩ rfl) rfl ?_
      clear h a w; intro a w h
      refine h_take (listed' := #[true, true, false, false, false, false, false, false, false, false]) h 1 (by as_aux_lemma => kernel_rfl) rfl (by as_aux_lemma => kernel_rfl) (by as_aux_lemma => kernel_rfl) (by as_aux_lemma => kernel_rfl) (fun _ _ _ hh => hh) (by first | exact h.2 | exact h.2.drop 1 | exact h.2.drop 2 | exact h.2.drop 3 | exact h.2.drop 4 | exact h.2.drop 5 | exact h.2.drop 6) (fun w hw => r_move ⟨h.1, hw⟩ rfl) rfl ?_
      clear h a w; intro a w h
      refine h_take (listed' := #[true, true, true, false, false, false, false, false, false, false]) h 2 (by as_aux_lemma => kernel_rfl) rfl (by as_aux_lemma => kernel_rfl) (by as_aux_lemma => kernel_rfl) (by as_aux_lemma => kernel_rfl) (fun _ _ _ hh => hh) (by first | exact h.2 | exact h.2.drop 1 | exact h.2.drop 2 | exact h.2.drop 3 | exact h.2.drop 4 | exact h.2.drop 5 | exact h.2.drop 6) (fun w hw => r_bin ⟨h.1, hw⟩ rfl rfl (B.shr_u8 (by decide))) rfl ?_
      clear h a w; intro a w h
      refine h_take (listed' := #[true, true, true, true, false, false, false, false, false, false]) h 3 (by as_aux_lemma => kernel_rfl) rfl (by as_aux_lemma => kernel_rfl) (by as_aux_lemma => kernel_rfl) (by as_aux_lemma => kernel_rfl) (fun _ _ _ hh => hh) (by first | exact h.2 | exact h.2.drop 1 | exact h.2.drop 2 | exact h.2.drop 3 | exact h.2.drop 4 | exact h.2.drop 5 | exact h.2.drop 6) (fun w hw => r_ixT ⟨h.1, hw⟩ rfl rfl K.u_string (by omega) (by first | omega | (simp only [List.length_cons, List.length_nil]; omega) | (simp; done) | (simp; omega))) rfl ?_
      clear h a w; intro a w h
      rw [hb1] at h
      refine h_take (listed' := #[true, true, true, true, true, false, false, false, false, false]) h 4 (by as_aux_lemma => kernel_rfl) rfl (by as_aux_lemma => kernel_rfl) (by as_aux_lemma => kernel_rfl) (by as_aux_lemma => kernel_rfl) (fun _ _ _ hh => hh) (by first | exact h.2 | exact h.2.drop 1 | exact h.2.drop 2 | exact h.2.drop 3 | exact h.2.drop 4 | exact h.2.drop 5 | exact h.2.drop 6) (fun w hw => r_move ⟨h.1, hw⟩ rfl) rfl ?_
      clear h a w; intro a w h
      refine h_take (listed' := #[true, true, true, true, true, true, false, false, false, false]) h 5 (by as_aux_lemma => kernel_rfl) rfl (by as_aux_lemma => kernel_rfl) (by as_aux_lemma => kernel_rfl) (by as_aux_lemma => kernel_rfl) (fun _ _ _ hh => hh) (by first | exact h.2 | exact h.2.drop 1 | exact h.2.drop 2 | exact h.2.drop 3 | exact h.2.drop 4 | exact h.2.drop 5 | exact h.2.drop 6) (fun w hw => r_bin ⟨h.1, hw⟩ rfl rfl (B.and_u8 (y := 15))) rfl ?_
      clear h a w; intro a w h
      refine h_take (listed' := #[true, true, true, true, true, true, true, false, false, false]) h 6 (by as_aux_lemma => kernel_rfl) rfl (by as_aux_lemma => kernel_rfl) (by as_aux_lemma => kernel_rfl) (by as_aux_lemma => kernel_rfl) (fun _ _ _ hh => hh) (by first | exact h.2 | exact h.2.drop 1 | exact h.2.drop 2 | exact h.2.drop 3 | exact h.2.drop 4 | exact h.2.drop 5 | exact h.2.drop 6) (fun w hw => r_ixT ⟨h.1, hw⟩ rfl rfl K.u_string (by omega) (by first | omega | (simp only [List.length_cons, List.length_nil]; omega) | (simp; done) | (simp; omega))) rfl ?_
      clear h a w; intro a w h
      rw [hb2] at h
      refine h_only (listed' := #[true, true, true, true, true, true, true, true, false, false]) 7 (by as_aux_lemma => kernel_rfl) rfl rfl (by as_aux_lemma => kernel_rfl) ?_
      refine op_buildSlice h K.u_S_uint8 K.sz_uint8 K.z_uint8 rfl rfl rfl rfl rfl (by simp [Value.cells, bv, w32, w64, sv]) rfl ?_
      clear h a w; intro b17 a w h
      refine ⟨(by first | exact h.2 | exact h.2.drop 1 | exact h.2.drop 2 | exact h.2.drop 3 | exact h.2.drop 4 | exact h.2.drop 5 | exact h.2.drop 6), ?_⟩
      replace h := h.toOwnb [hexD.getD (b.toNat / 16) 0, hexD.getD (b.toNat % 16) 0] (NF.zero _) rfl rfl
      refine h_only (listed' := #[true, true, true, true, true, true, true, true, true, false]) 8 (by as_aux_lemma => kernel_rfl) rfl rfl (by as_aux_lemma => kernel_rfl) ?_
      first
        | (refine op_appendbs h rfl rfl K.u_S_uint8 K.sz_uint8 K.z_uint8 rfl rfl 0 rfl (Src.bytes K.u_S_uint8 (by first | exact ViewsB.own 0 rfl | exact ViewsB.own 1 rfl | exact ViewsB.own 2 rfl | exact ViewsB.own 3 rfl | exact ViewsB.own 4 rfl | exact ViewsB.own 5 rfl | assumption | exact ViewsB.nil _ | exact ViewsB.arr 0 rfl (by first | assumption | rfl | (simp; done)) (Nat.le_refl _) (by simp [maxLen]) | exact ViewsB.arr 1 rfl (by first | assumption | rfl | (simp; done)) (Nat.le_refl _) (by simp [maxLen]) | exact ViewsB.arr 2 rfl (by first | assumption | rfl | (simp; done)) (Nat.le_refl _) (by simp [maxLen]) | exact ViewsB.arr 3 rfl (by first | assumption | rfl | (simp; done)) (Nat.le_refl _) (by simp [maxLen]) | exact ViewsB.arr 4 rfl (by first | assumption | rfl | (simp; done)) (Nat.le_refl _) (by simp [maxLen]) | exact ViewsB.cons (by assumption) _ | exact ViewsB.cons (ViewsB.cons (by assumption) _) _ | exact ViewsB.cons (ViewsB.cons (ViewsB.cons (by assumption) _) _) _ | exact ViewsB.cons (ViewsB.cons (ViewsB.cons (ViewsB.cons (by assumption) _) _) _) _) h.2) (by first | omega | (simp only [List.length_cons, List.length_nil]; omega) | (simp; done) | (simp; omega)) rfl ?_)
        | (refine op_appendbs h rfl rfl K.u_S_uint8 K.sz_uint8 K.z_uint8 rfl rfl 1 rfl (Src.bytes K.u_S_uint8 (by first | exact ViewsB.own 0 rfl | exact ViewsB.own 1 rfl | exact ViewsB.own 2 rfl | exact ViewsB.own 3 rfl | exact ViewsB.own 4 rfl | exact ViewsB.own 5 rfl | assumption | exact ViewsB.nil _ | exact ViewsB.arr 0 rfl (by first | assumption | rfl | (simp; done)) (Nat.le_refl _) (by simp [maxLen]) | exact ViewsB.arr 1 rfl (by first | assumption | rfl | (simp; done)) (Nat.le_refl _) (by simp [maxLen]) | exact ViewsB.arr 2 rfl (by first | assumption | rfl | (simp; done)) (Nat.le_refl _) (by simp [maxLen]) | exact ViewsB.arr 3 rfl (by first | assumption | rfl | (simp; done)) (Nat.le_refl _) (by simp [maxLen]) | exact ViewsB.arr 4 rfl (by first | assumption | rfl | (simp; done)) (Nat.le_refl _) (by simp [maxLen]) | exact ViewsB.cons (by assumption) _ | exact ViewsB.cons (ViewsB.cons (by assumption) _) _ | exact ViewsB.cons (ViewsB.cons (ViewsB.cons (by assumption) _) _) _ | exact ViewsB.cons (ViewsB.cons (ViewsB.cons (ViewsB.cons (by assumption) _) _) _) _) h.2) (by first | omega | (simp only [List.length_cons, List.length_nil]; omega) | (simp; done) | (simp; omega)) rfl ?_)
        | (refine op_appendbs h rfl rfl K.u_S_uint8 K.sz_uint8 K.z_uint8 rfl rfl 2 rfl (Src.bytes K.u_S_uint8 (by first | exact ViewsB.own 0 rfl | exact ViewsB.own 1 rfl | exact ViewsB.own 2 rfl | exact ViewsB.own 3 rfl | exact ViewsB.own 4 rfl | exact ViewsB.own 5 rfl | assumption | exact ViewsB.nil _ | exact ViewsB.arr 0 rfl (by first | assumption | rfl | (simp; done)) (Nat.le_refl _) (by simp [maxLen]) | exact ViewsB.arr 1 rfl (by first | assumption | rfl | (simp; done)) (Nat.le_refl _) (by simp [maxLen]) | exact ViewsB.arr 2 rfl (by first | assumption | rfl | (simp; done)) (Nat.le_refl _) (by simp [maxLen]) | exact ViewsB.arr 3 rfl (by first | assumption | rfl | (simp; done)) (Nat.le_refl _) (by simp [maxLen]) | exact ViewsB.arr 4 rfl (by first | assumption | rfl | (simp; done)) (Nat.le_refl _) (by simp [maxLen]) | exact ViewsB.cons (by assumption) _ | exact ViewsB.cons (ViewsB.cons (by assumption) _) _ | exact ViewsB.cons (ViewsB.cons (ViewsB.cons (by assumption) _) _) _ | exact ViewsB.cons (ViewsB.cons (ViewsB.cons (ViewsB.cons (by assumption) _) _) _) _) h.2) (by first | omega | (simp only [List.length_cons, List.length_nil]; omega) | (simp; done) | (simp; omega)) rfl ?_)
        | (refine op_appendbs h rfl rfl K.u_S_uint8 K.sz_uint8 K.z_uint8 rfl rfl 3 rfl (Src.bytes K.u_S_uint8 (by first | exact ViewsB.own 0 rfl | exact ViewsB.own 1 rfl | exact ViewsB.own 2 rfl | exact ViewsB.own 3 rfl | exact ViewsB.own 4 rfl | exact ViewsB.own 5 rfl | assumption | exact ViewsB.nil _ | exact ViewsB.arr 0 rfl (by first | assumption | rfl | (simp; done)) (Nat.le_refl _) (by simp [maxLen]) | exact ViewsB.arr 1 rfl (by first | assumption | rfl | (simp; done)) (Nat.le_refl _) (by simp [maxLen]) | exact ViewsB.arr 2 rfl (by first | assumption | rfl | (simp; done)) (Nat.le_refl _) (by simp [maxLen]) | exact ViewsB.arr 3 rfl (by first | assumption | rfl | (simp; done)) (Nat.le_refl _) (by simp [maxLen]) | exact ViewsB.arr 4 rfl (by first | assumption | rfl | (simp; done)) (Nat.le_refl _) (by simp [maxLen]) | exact ViewsB.cons (by assumption) _ | exact ViewsB.cons (ViewsB.cons (by assumption) _) _ | exact ViewsB.cons (ViewsB.cons (ViewsB.cons (by assumption) _) _) _ | exact ViewsB.cons (ViewsB.cons (ViewsB.cons (ViewsB.cons (by assumption) _) _) _) _) h.2) (by first | omega | (simp only [List.length_cons, List.length_nil]; omega) | (simp; done) | (simp; omega)) rfl ?_)
        | (refine op_appendbs h rfl rfl K.u_S_uint8 K.sz_uint8 K.z_uint8 rfl rfl 4 rfl (Src.bytes K.u_S_uint8 (by first | exact ViewsB.own 0 rfl | exact ViewsB.own 1 rfl | exact ViewsB.own 2 rfl | exact ViewsB.own 3 rfl | exact ViewsB.own 4 rfl | exact ViewsB.own 5 rfl | assumption | exact ViewsB.nil _ | exact ViewsB.arr 0 rfl (by first | assumption | rfl | (simp; done)) (Nat.le_refl _) (by simp [maxLen]) | exact ViewsB.arr 1 rfl (by first | assumption | rfl | (simp; done)) (Nat.le_refl _) (by simp [maxLen]) | exact ViewsB.arr 2 rfl (by first | assumption | rfl | (simp; done)) (Nat.le_refl _) (by simp [maxLen]) | exact ViewsB.arr 3 rfl (by first | assumption | rfl | (simp; done)) (Nat.le_refl _) (by simp [maxLen]) | exact ViewsB.arr 4 rfl (by first | assumption | rfl | (simp; done)) (Nat.le_refl _) (by simp [maxLen]) | exact ViewsB.cons (by assumption) _ | exact ViewsB.cons (ViewsB.cons (by assumption) _) _ | exact ViewsB.cons (ViewsB.cons (ViewsB.cons (by assumption) _) _) _ | exact ViewsB.cons (ViewsB.cons (ViewsB.cons (ViewsB.cons (by assumption) _) _) _) _) h.2) (by first | omega | (simp only [List.length_cons, List.length_nil]; omega) | (simp; done) | (simp; omega)) rfl ?_)
        | (refine op_appendbs h rfl rfl K.u_S_uint8 K.sz_uint8 K.z_uint8 rfl rfl 5 rfl (Src.bytes K.u_S_uint8 (by first | exact ViewsB.own 0 rfl | exact ViewsB.own 1 rfl | exact ViewsB.own 2 rfl | exact ViewsB.own 3 rfl | exact ViewsB.own 4 rfl | exact ViewsB.own 5 rfl | assumption | exact ViewsB.nil _ | exact ViewsB.arr 0 rfl (by first | assumption | rfl | (simp; done)) (Nat.le_refl _) (by simp [maxLen]) | exact ViewsB.arr 1 rfl (by first | assumption | rfl | (simp; done)) (Nat.le_refl _) (by simp [maxLen]) | exact ViewsB.arr 2 rfl (by first | assumption | rfl | (simp; done)) (Nat.le_refl _) (by simp [maxLen]) | exact ViewsB.arr 3 rfl (by first | assumption | rfl | (simp; done)) (Nat.le_refl _) (by simp [maxLen]) | exact ViewsB.arr 4 rfl (by first | assumption | rfl | (simp; done)) (Nat.le_refl _) (by simp [maxLen]) | exact ViewsB.cons (by assumption) _ | exact ViewsB.cons (ViewsB.cons (by assumption) _) _ | exact ViewsB.cons (ViewsB.cons (ViewsB.cons (by assumption) _) _) _ | exact ViewsB.cons (ViewsB.cons (ViewsB.cons (ViewsB.cons (by assumption) _) _) _) _) h.2) (by first | omega | (simp only [List.length_cons, List.length_nil]; omega) | (simp; done) | (simp; omega)) rfl ?_)
      clear h a w; intro v18 a w h
      (try simp only [List.set_cons_zero, List.set_cons_succ] at h)
      rw [show hexOf (k.take i) ++ [hexD.getD (b.toNat / 16) 0, hexD.getD (b.toNat % 16) 0] = hexOf (k.take (i + 1)) by rw [hts, hexOf_append]; rfl] at h
      replace h : St 22 s a w _ (OwnB v18 (hexOf (k.take (i + 1))) :: G) := (h.drop 1)
      refine ⟨(by first | exact h.2 | exact h.2.drop 1 | exact h.2.drop 2 | exact h.2.drop 3 | exact h.2.drop 4 | exact h.2.drop 5 | exact h.2.drop 6), ?_⟩
      refine h_take (listed' := #[true, true, true, true, true, true, true, true, true, true]) h 9 (by as_aux_lemma => kernel_rfl) rfl (by as_aux_lemma => kernel_rfl) (by as_aux_lemma => kernel_rfl) (by as_aux_lemma => kernel_rfl) (fun _ _ _ hh => hh) (by first | exact h.2 | exact h.2.drop 1 | exact h.2.drop 2 | exact h.2.drop 3 | exact h.2.drop 4 | exact h.2.drop 5 | exact h.2.drop 6) (fun w hw => r_assign ⟨h.1, hw⟩ rfl) rfl ?_
      clear h a w; intro a w h
      refine h_done (by kernel_rfl) ?_
      refine b_normal ?_
      refine c_then ?_
      refine c_region ?_
      refine wv h (r_bin h rfl rfl (B.add_i64 (by omega) (by omega))) rfl ?_
      clear h a w; intro a w h
      refine wv h (r_move h rfl) rfl ?_
      clear h a w; intro a w h
      generalize hG : (Blk b1 (.cells (arr8 k) t_api_Key) :: F) = G at h
      refine wnil ?_
      exact ⟨(i + 1, v18), h.keep [3, 6, 7], (by show i + 1 ≤ 32; omega), by show 32 - (i + 1) < 32 - i; omega⟩
    ·
      obtain rfl : i = 32 := by omega
      rw [List.take_of_length_le (by omega)] at h
      refine c_exit ?_
      refine e_then ?_
      refine e_then ?_
      refine e_here ?_
      refine c_then ?_
      refine c_seq (c_region ?_)
      refine wv h (r_move h rfl) rfl ?_
      clear h a w; intro a w h
      refine wv h (r_b2sb h rfl K.u_S_uint8 K.u_uint8 K.u_string (by first | exact ViewsB.own 0 rfl | exact ViewsB.own 1 rfl | exact ViewsB.own 2 rfl | exact ViewsB.own 3 rfl | exact ViewsB.own 4 rfl | exact ViewsB.own 5 rfl | assumption | exact ViewsB.nil _ | exact ViewsB.arr 0 rfl (by first | assumption | rfl | (simp; done)) (Nat.le_refl _) (by simp [maxLen]) | exact ViewsB.arr 1 rfl (by first | assumption | rfl | (simp; done)) (Nat.le_refl _) (by simp [maxLen]) | exact ViewsB.arr 2 rfl (by first | assumption | rfl | (simp; done)) (Nat.le_refl _) (by simp [maxLen]) | exact ViewsB.arr 3 rfl (by first | assumption | rfl | (simp; done)) (Nat.le_refl _) (by simp [maxLen]) | exact ViewsB.arr 4 rfl (by first | assumption | rfl | (simp; done)) (Nat.le_refl _) (by simp [maxLen]) | exact ViewsB.cons (by assumption) _ | exact ViewsB.cons (ViewsB.cons (by assumption) _) _ | exact ViewsB.cons (ViewsB.cons (ViewsB.cons (by assumption) _) _) _ | exact ViewsB.cons (ViewsB.cons (ViewsB.cons (ViewsB.cons (by assumption) _) _) _) _)) rfl ?_
      clear h a w; intro a w h
      refine wv h (r_assign h rfl) rfl ?_
      clear h a w; intro a w h
      refine wnil (c_then ?_)
      refine c_ret ?_
      refine ret1 h rfl rfl ⟨(), rfl, ?_, trivial⟩
      rw [← hG] at h
      exact h.2.drop 2

theorem stamp_Read (s w : World) (t : List UInt8) (F : List HItem) (hs : Sat s w F) :
    Calls P n_stamp_Read #[sv t] w (Ret s (fun _ : Unit => .tuple #[.agg (arr8 (if hexOk t then unhex t else List.replicate 32 0)), .bool (hexOk t)]) (fun _ => F) (fun _ => True)) := by
  have hbad : hexOk t = false → (if hexOk t = true then unhex t else List.replicate 32 0) = List.replicate 32 0 := fun e => by rw [e]; rfl
  refine enter K.fn_stamp_Read rfl K.nt_stamp_Read rfl hs ?_
  clear hs w; intro a w h
  refine c_seq (c_region ?_)
  refine wl rfl (op_alloc h K.z_api_Key rfl ?_)
  clear h a w; intro b2 a w h
  rw [show (Value.agg (Array.replicate 32 (Value.int .u8 0))).cells = arr8 (List.replicate 32 0) from (arr8_zero 32).symm] at h
  refine wv h (r_assign h rfl) rfl ?_
  clear h a w; intro a w h
  refine wnil (c_then ?_)
  refine c_seq (c_region ?_)
  refine wl rfl (op_alloc h K.z_api_Key rfl ?_)
  clear h a w; intro b4 a w h
  rw [show (Value.agg (Array.replicate 32 (Value.int .u8 0))).cells = arr8 (List.replicate 32 0) from (arr8_zero 32).symm] at h
  refine wnil (c_then ?_)
  refine c_seq ?_
  refine c_seq (c_region ?_)
  refine wv h (r_move h rfl) rfl ?_
  clear h a w; intro a w h
  refine wv h (r_lenT h rfl K.u_string) rfl ?_
  clear h a w; intro a w h
  refine wv h (r_bin h rfl rfl (B.neq_int)) rfl ?_
  clear h a w; intro a w h
  refine wnil (c_then ?_)
  first
    | refine c_condD h rfl (fun ht1 => ?_) (fun ht1 => ?_)
    | refine c_condP h rfl (by first | (simp only [Bool.and_eq_true, Bool.or_eq_true, Bool.not_eq_true', decide_eq_true_eq, decide_eq_false_iff_not, ne_eq, Bool.not_eq_eq_eq_not, Bool.not_true, beq_iff_eq, bne_iff_ne]; exact Iff.rfl) | exact Iff.rfl) (fun ht1 => ?_) (fun ht1 => ?_)
  ·
    as_aux_lemma =>
      refine c_seq (c_region ?_)
      refine wv h (r_buildA h K.u_api_Key K.z_api_Key K.sz_uint8 rfl rfl) rfl ?_
      clear h a w; intro a w h
      rw [show (Value.agg (Array.replicate 32 (Value.int .u8 0))).cells = arr8 (List.replicate 32 0) from (arr8_zero 32).symm] at h
      first
        | (refine wl rfl (op_storeA8 h rfl rfl K.sz_api_Key (by first | rfl | assumption | (simp; done) | (simp; omega) | omega) 0 rfl (by first | rfl | (simp [arr8]; done) | (simp [arr8]; omega) | (simp [arr8]; assumption)) ?_))
        | (refine wl rfl (op_storeA8 h rfl rfl K.sz_api_Key (by first | rfl | assumption | (simp; done) | (simp; omega) | omega) 1 rfl (by first | rfl | (simp [arr8]; done) | (simp [arr8]; omega) | (simp [arr8]; assumption)) ?_))
        | (refine wl rfl (op_storeA8 h rfl rfl K.sz_api_Key (by first | rfl | assumption | (simp; done) | (simp; omega) | omega) 2 rfl (by first | rfl | (simp [arr8]; done) | (simp [arr8]; omega) | (simp [arr8]; assumption)) ?_))
        | (refine wl rfl (op_storeA8 h rfl rfl K.sz_api_Key (by first | rfl | assumption | (simp; done) | (simp; omega) | omega) 3 rfl (by first | rfl | (simp [arr8]; done) | (simp [arr8]; omega) | (simp [arr8]; assumption)) ?_))
        | (refine wl rfl (op_storeA8 h rfl rfl K.sz_api_Key (by first | rfl | assumption | (simp; done) | (simp; omega) | omega) 4 rfl (by first | rfl | (simp [arr8]; done) | (simp [arr8]; omega) | (simp [arr8]; assumption)) ?_))
        | (refine wl rfl (op_storeA8 h rfl rfl K.sz_api_Key (by first | rfl | assumption | (simp; done) | (simp; omega) | omega) 5 rfl (by first | rfl | (simp [arr8]; done) | (simp [arr8]; omega) | (simp [arr8]; assumption)) ?_))
      clear h a w; intro a w h
      (try simp only [List.set_cons_zero, List.set_cons_succ] at h)
      refine wv h (r_assign h rfl) rfl ?_
      clear h a w; intro a w h
      refine wnil (c_then ?_)
      refine c_ret ?_
      have e : hexOk t = false := by
        have : ¬ t.length = 64 := by omega
        simp [hexOk, this]
      exact retct h rfl rfl rfl K.u_api_Key rfl K.sz_api_Key 1 rfl (by simp [arr8]) ⟨(), by rw [hbad e, e], h.2.drop 2, trivial⟩
  ·
    have hl : t.length = 64 := by omega
    have hDl := unhex_len 32 t hl
    have hgets := fun i (hi : i < 32) => unhex_get 32 i t hl hi
    generalize unhex t = D at *
    refine c_skip ?_
    refine c_then ?_
    refine c_seq ?_
    refine c_seq (c_region ?_)
    refine wv h (r_move h rfl) rfl ?_
    clear h a w; intro a w h
    have h3 : St 41 s a w [(0, sv t), (2, .pointer (some ⟨b2, 0, none⟩)), (4, .pointer (some ⟨b4, 0, none⟩)), (12, .int .i64 ((0 : Nat) : Int))] _ := h.keep [0, 2, 4, 12]
    rw [show Blk b4 (Obj.cells (arr8 (List.replicate 32 0)) t_api_Key) = Blk b4 (.cells (arr8 (D.take 0 ++ List.replicate (32 - 0) 0)) t_api_Key) from rfl] at h3
    refine wnil (c_then ?_)
    refine c_block ?_
    refine c_loopX h (X := Nat) (fun i => [(0, sv t), (2, .pointer (some ⟨b2, 0, none⟩)), (4, .pointer (some ⟨b4, 0, none⟩)), (12, .int .i64 (i : Int))])
      (fun i => Blk b4 (.cells (arr8 (D.take i ++ List.replicate (32 - i) 0)) t_api_Key) :: Blk b2 (.cells (arr8 (List.replicate 32 0)) t_api_Key) :: F) (fun i => i ≤ 32 ∧ ∀ c ∈ t.take (2 * i), nib c ≤ 15) (fun i => 32 - i) 0 h3 (by simp) ?_
    clear h3
    clear h a w; intro i a w hx h
    obtain ⟨hi, hall⟩ := hx
    as_aux_lemma =>
      refine c_seq (c_region ?_)
      refine wv h (r_bin h rfl rfl (B.lss_int)) rfl ?_
      clear h a w; intro a w h
      refine wnil (c_then ?_)
      refine c_seq ?_
      first
        | refine c_condD h rfl (fun ht2 => ?_) (fun ht2 => ?_)
        | refine c_condP h rfl (by first | (simp only [Bool.and_eq_true, Bool.or_eq_true, Bool.not_eq_true', decide_eq_true_eq, decide_eq_false_iff_not, ne_eq, Bool.not_eq_eq_eq_not, Bool.not_true, beq_iff_eq, bne_iff_ne]; exact Iff.rfl) | exact Iff.rfl) (fun ht2 => ?_) (fun ht2 => ?_)
      ·
        refine c_skip ?_
        refine c_then ?_
        refine c_seq ?_
        refine c_block ?_
        refine c_seq (c_region ?_)
        refine wv h (r_move h rfl) rfl ?_
        clear h a w; intro a w h
        refine wv h (r_assign h rfl) rfl ?_
        clear h a w; intro a w h
        refine wnil (c_then ?_)
        refine c_seq (c_draw K.mixed (by kernel_rfl) h ?_)
        clear h a w; intro a hE
        refine qv hE (fun w hw => r_move ⟨hE, hw⟩ rfl) rfl ?_
        clear hE a; intro a hE
        refine qv hE (fun w hw => r_move ⟨hE, hw⟩ rfl) rfl ?_
        clear hE a; intro a hE
        refine qv hE (fun w hw => r_bin ⟨hE, hw⟩ rfl rfl (B.mul_i64 (by omega) (by omega))) rfl ?_
        clear hE a; intro a hE
        refine qv hE (fun w hw => r_ixT ⟨hE, hw⟩ rfl rfl K.u_string (by omega) (by first | omega | (simp only [List.length_cons, List.length_nil]; omega) | (simp; done) | (simp; omega))) rfl ?_
        clear hE a; intro a hE
        refine q_call hE rfl K.go_stamp_nibble (fun w hw => Ret.keeps (stamp_nibble s w _ _ hw) (fun _ _ => rfl) (fun _ _ h => h)) rfl ?_
        clear hE a; intro a hE
        refine qv hE (fun w hw => r_move ⟨hE, hw⟩ rfl) rfl ?_
        clear hE a; intro a hE
        refine qv hE (fun w hw => r_move ⟨hE, hw⟩ rfl) rfl ?_
        clear hE a; intro a hE
        refine qv hE (fun w hw => r_bin ⟨hE, hw⟩ rfl rfl (B.mul_i64 (by omega) (by omega))) rfl ?_
        clear hE a; intro a hE
        refine qv hE (fun w hw => r_bin ⟨hE, hw⟩ rfl rfl (B.add_i64 (by omega) (by omega))) rfl ?_
        clear hE a; intro a hE
        refine qv hE (fun w hw => r_ixT ⟨hE, hw⟩ rfl rfl K.u_string (by omega) (by first | omega | (simp only [List.length_cons, List.length_nil]; omega) | (simp; done) | (simp; omega))) rfl ?_
        clear hE a; intro a hE
        refine q_call hE rfl K.go_stamp_nibble (fun w hw => Ret.keeps (stamp_nibble s w _ _ hw) (fun _ _ => rfl) (fun _ _ h => h)) rfl ?_
        clear hE a; intro a hE
        refine qv hE (fun w hw => r_assign ⟨hE, hw⟩ rfl) rfl ?_
        clear hE a; intro a hE
        refine qv hE (fun w hw => r_assign ⟨hE, hw⟩ rfl) rfl ?_
        clear hE a; intro a hE
        refine qnil hE ?_
        clear hE a; intro a w h
        refine c_then ?_
        refine c_seq ?_
        refine c_seq (c_region ?_)
        refine wv h (r_move h rfl) rfl ?_
        clear h a w; intro a w h
        refine wv h (r_bin h rfl rfl (B.gtr_u8 (y := 15))) rfl ?_
        clear h a w; intro a w h
        refine wv h (r_move h rfl) rfl ?_
        clear h a w; intro a w h
        refine wvG h (by first | exact .t rfl | exact .f rfl | exact .gt rfl | exact .gf rfl) (fun hg => by (try simp only [gval_on hg, gval_and hg] at h); (have hg2 := hg; (try simp only [Bool.and_eq_true, Bool.or_eq_true, Bool.not_eq_true', decide_eq_true_eq, decide_eq_false_iff_not] at hg2)); first | exact r_move h rfl) rfl ?_
        clear h a w; intro a w h
        refine wvG h (by first | exact .t rfl | exact .f rfl | exact .gt rfl | exact .gf rfl) (fun hg => by (try simp only [gval_on hg, gval_and hg] at h); (have hg2 := hg; (try simp only [Bool.and_eq_true, Bool.or_eq_true, Bool.not_eq_true', decide_eq_true_eq, decide_eq_false_iff_not] at hg2)); first | exact r_bin h rfl rfl (B.gtr_u8 (y := 15))) rfl ?_
        clear h a w; intro a w h
        first
          | (refine wv h (r_pickA h rfl rfl rfl) rfl ?_)
          | (refine wv h (r_pickO h rfl rfl rfl) rfl ?_)
          | (refine wv h (r_pick_true h rfl rfl) rfl ?_)
          | (refine wv h (r_pick_false h rfl rfl) rfl ?_)
          | (refine wv h (r_pick h rfl rfl rfl) rfl ?_)
        clear h a w; intro a w h
        refine wnil (c_then ?_)
        first
          | refine c_condD h rfl (fun ht3 => ?_) (fun ht3 => ?_)
          | refine c_condP h rfl (by first | (simp only [Bool.and_eq_true, Bool.or_eq_true, Bool.not_eq_true', decide_eq_true_eq, decide_eq_false_iff_not, ne_eq, Bool.not_eq_eq_eq_not, Bool.not_true, beq_iff_eq, bne_iff_ne]; exact Iff.rfl) | exact Iff.rfl) (fun ht3 => ?_) (fun ht3 => ?_)
        ·
          have e : hexOk t = false := by
            rw [hexOk, hl]
            simp only [BEq.rfl, Bool.true_and, List.all_eq_false, decide_eq_true_eq]
            rcases ht3 with h3 | h3
            · exact ⟨t.getD (2 * i) 0, by rw [List.getD_eq_getElem?_getD, List.getElem?_eq_getElem (by omega)]; exact List.getElem_mem _, by rw [UInt8.le_iff_toNat_le]; rw [UInt8.lt_iff_toNat_lt] at h3; omega⟩
            · exact ⟨t.getD (2 * i + 1) 0, by rw [List.getD_eq_getElem?_getD, List.getElem?_eq_getElem (by omega)]; exact List.getElem_mem _, by rw [UInt8.le_iff_toNat_le]; rw [UInt8.lt_iff_toNat_lt] at h3; omega⟩
          as_aux_lemma =>
            refine c_seq (c_region ?_)
            refine wv h (r_buildA h K.u_api_Key K.z_api_Key K.sz_uint8 rfl rfl) rfl ?_
            clear h a w; intro a w h
            rw [show (Value.agg (Array.replicate 32 (Value.int .u8 0))).cells = arr8 (List.replicate 32 0) from (arr8_zero 32).symm] at h
            first
              | (refine wl rfl (op_storeA8 h rfl rfl K.sz_api_Key (by first | rfl | assumption | (simp; done) | (simp; omega) | omega) 0 rfl (by first | rfl | (simp [arr8]; done) | (simp [arr8]; omega) | (simp [arr8]; assumption)) ?_))
              | (refine wl rfl (op_storeA8 h rfl rfl K.sz_api_Key (by first | rfl | assumption | (simp; done) | (simp; omega) | omega) 1 rfl (by first | rfl | (simp [arr8]; done) | (simp [arr8]; omega) | (simp [arr8]; assumption)) ?_))
              | (refine wl rfl (op_storeA8 h rfl rfl K.sz_api_Key (by first | rfl | assumption | (simp; done) | (simp; omega) | omega) 2 rfl (by first | rfl | (simp [arr8]; done) | (simp [arr8]; omega) | (simp [arr8]; assumption)) ?_))
              | (refine wl rfl (op_storeA8 h rfl rfl K.sz_api_Key (by first | rfl | assumption | (simp; done) | (simp; omega) | omega) 3 rfl (by first | rfl | (simp [arr8]; done) | (simp [arr8]; omega) | (simp [arr8]; assumption)) ?_))
              | (refine wl rfl (op_storeA8 h rfl rfl K.sz_api_Key (by first | rfl | assumption | (simp; done) | (simp; omega) | omega) 4 rfl (by first | rfl | (simp [arr8]; done) | (simp [arr8]; omega) | (simp [arr8]; assumption)) ?_))
              | (refine wl rfl (op_storeA8 h rfl rfl K.sz_api_Key (by first | rfl | assumption | (simp; done) | (simp; omega) | omega) 5 rfl (by first | rfl | (simp [arr8]; done) | (simp [arr8]; omega) | (simp [arr8]; assumption)) ?_))
            clear h a w; intro a w h
            (try simp only [List.set_cons_zero, List.set_cons_succ] at h)
            refine wv h (r_assign h rfl) rfl ?_
            clear h a w; intro a w h
            refine wnil (c_then ?_)
            refine c_ret ?_
            exact retct h rfl rfl rfl K.u_api_Key rfl K.sz_api_Key 1 rfl (by simp [arr8]) ⟨(), by rw [hbad e, e], h.2.drop 2, trivial⟩
        ·
          have hget := hgets i (by omega)
          have hfl := arr_fill D 0 _ i hget
          rw [hDl] at hfl
          refine c_skip ?_
          refine c_then ?_
          refine c_region ?_
          refine wv h (r_move h rfl) rfl ?_
          clear h a w; intro a w h
          refine wv h (r_move h rfl) rfl ?_
          clear h a w; intro a w h
          refine wv h (r_bin h rfl rfl (B.shl_u8 (by decide))) rfl ?_
          clear h a w; intro a w h
          refine wv h (r_move h rfl) rfl ?_
          clear h a w; intro a w h
          refine wv h (r_bin h rfl rfl (B.or_u8)) rfl ?_
          clear h a w; intro a w h
          refine wv h (r_arP h rfl rfl K.u_api_Key K.sz_uint8 (by omega) (by first | omega | (simp only [List.length_cons, List.length_nil]; omega) | (simp; done) | (simp; omega))) rfl ?_
          clear h a w; intro a w h
          first
            | (refine wl rfl (op_store8 h rfl rfl K.sz_uint8 0 rfl (by first | omega | (simp only [List.length_cons, List.length_nil]; omega) | (simp; done) | (simp; omega)) ?_))
            | (refine wl rfl (op_store8 h rfl rfl K.sz_uint8 1 rfl (by first | omega | (simp only [List.length_cons, List.length_nil]; omega) | (simp; done) | (simp; omega)) ?_))
            | (refine wl rfl (op_store8 h rfl rfl K.sz_uint8 2 rfl (by first | omega | (simp only [List.length_cons, List.length_nil]; omega) | (simp; done) | (simp; omega)) ?_))
            | (refine wl rfl (op_store8 h rfl rfl K.sz_uint8 3 rfl (by first | omega | (simp only [List.length_cons, List.length_nil]; omega) | (simp; done) | (simp; omega)) ?_))
            | (refine wl rfl (op_store8 h rfl rfl K.sz_uint8 4 rfl (by first | omega | (simp only [List.length_cons, List.length_nil]; omega) | (simp; done) | (simp; omega)) ?_))
            | (refine wl rfl (op_store8 h rfl rfl K.sz_uint8 5 rfl (by first | omega | (simp only [List.length_cons, List.length_nil]; omega) | (simp; done) | (simp; omega)) ?_))
          clear h a w; intro a w h
          (try simp only [List.set_cons_zero, List.set_cons_succ] at h)
          rw [show (4 : Int).toNat = 4 from rfl, show 2 ^ 4 = 16 from rfl, hfl] at h
          refine wnil ?_
          refine b_normal ?_
          refine c_then ?_
          refine c_region ?_
          refine wv h (r_bin h rfl rfl (B.add_i64 (by omega) (by omega))) rfl ?_
          clear h a w; intro a w h
          refine wv h (r_move h rfl) rfl ?_
          clear h a w; intro a w h
          refine wnil ?_
          refine ⟨i + 1, h.keep [0, 2, 4, 12], ⟨(by omega), ?_⟩, by show 32 - (i + 1) < 32 - i; omega⟩
          rw [show 2 * (i + 1) = 2 * i + 1 + 1 by omega, take_snoc t 0 _ (by omega), take_snoc t 0 _ (by omega)]
          intro c hc
          simp only [List.mem_append, List.mem_singleton] at hc
          rcases hc with (hc | hc) | hc
          · exact hall c hc
          · subst hc; rw [UInt8.le_iff_toNat_le]; have h3 : ¬ (15 < nib (t.getD (2 * i) 0)) := fun q => ht3 (.inl q); rw [UInt8.lt_iff_toNat_lt] at h3; omega
          · subst hc; rw [UInt8.le_iff_toNat_le]; have h3 : ¬ (15 < nib (t.getD (2 * i + 1) 0)) := fun q => ht3 (.inr q); rw [UInt8.lt_iff_toNat_lt] at h3; omega
      ·
        obtain rfl : i = 32 := by omega
        have e : hexOk t = true := by
          rw [hexOk, hl]
          simp only [BEq.rfl, Bool.true_and, List.all_eq_true, decide_eq_true_eq]
          rwa [List.take_of_length_le (by omega)] at hall
        rw [show D.take 32 ++ List.replicate (32 - 32) (0 : UInt8) = D by rw [List.take_of_length_le (by omega)]; simp] at h
        refine c_exit ?_
        refine e_then ?_
        refine e_then ?_
        refine e_here ?_
        refine c_then ?_
        refine c_seq (c_region ?_)
        first
          | (refine wv h (r_loadA8 h rfl K.u_api_Key rfl K.sz_api_Key 0 rfl (by first | rfl | assumption | (simp; done) | (simp; omega) | omega)) rfl ?_)
          | (refine wv h (r_loadA8 h rfl K.u_api_Key rfl K.sz_api_Key 1 rfl (by first | rfl | assumption | (simp; done) | (simp; omega) | omega)) rfl ?_)
          | (refine wv h (r_loadA8 h rfl K.u_api_Key rfl K.sz_api_Key 2 rfl (by first | rfl | assumption | (simp; done) | (simp; omega) | omega)) rfl ?_)
          | (refine wv h (r_loadA8 h rfl K.u_api_Key rfl K.sz_api_Key 3 rfl (by first | rfl | assumption | (simp; done) | (simp; omega) | omega)) rfl ?_)
          | (refine wv h (r_loadA8 h rfl K.u_api_Key rfl K.sz_api_Key 4 rfl (by first | rfl | assumption | (simp; done) | (simp; omega) | omega)) rfl ?_)
          | (refine wv h (r_loadA8 h rfl K.u_api_Key rfl K.sz_api_Key 5 rfl (by first | rfl | assumption | (simp; done) | (simp; omega) | omega)) rfl ?_)
          | (refine wv h (r_loadCA h rfl K.u_api_Key rfl K.sz_api_Key (by assumption) (by first | rfl | assumption | (simp; done) | (simp; omega) | omega)) rfl ?_)
        clear h a w; intro a w h
        first
          | (refine wl rfl (op_storeA8 h rfl rfl K.sz_api_Key (by first | rfl | assumption | (simp; done) | (simp; omega) | omega) 0 rfl (by first | rfl | (simp [arr8]; done) | (simp [arr8]; omega) | (simp [arr8]; assumption)) ?_))
          | (refine wl rfl (op_storeA8 h rfl rfl K.sz_api_Key (by first | rfl | assumption | (simp; done) | (simp; omega) | omega) 1 rfl (by first | rfl | (simp [arr8]; done) | (simp [arr8]; omega) | (simp [arr8]; assumption)) ?_))
          | (refine wl rfl (op_storeA8 h rfl rfl K.sz_api_Key (by first | rfl | assumption | (simp; done) | (simp; omega) | omega) 2 rfl (by first | rfl | (simp [arr8]; done) | (simp [arr8]; omega) | (simp [arr8]; assumption)) ?_))
          | (refine wl rfl (op_storeA8 h rfl rfl K.sz_api_Key (by first | rfl | assumption | (simp; done) | (simp; omega) | omega) 3 rfl (by first | rfl | (simp [arr8]; done) | (simp [arr8]; omega) | (simp [arr8]; assumption)) ?_))
          | (refine wl rfl (op_storeA8 h rfl rfl K.sz_api_Key (by first | rfl | assumption | (simp; done) | (simp; omega) | omega) 4 rfl (by first | rfl | (simp [arr8]; done) | (simp [arr8]; omega) | (simp [arr8]; assumption)) ?_))
          | (refine wl rfl (op_storeA8 h rfl rfl K.sz_api_Key (by first | rfl | assumption | (simp; done) | (simp; omega) | omega) 5 rfl (by first | rfl | (simp [arr8]; done) | (simp [arr8]; omega) | (simp [arr8]; assumption)) ?_))
        clear h a w; intro a w h
        (try simp only [List.set_cons_zero, List.set_cons_succ] at h)
        refine wv h (r_assign h rfl) rfl ?_
        clear h a w; intro a w h
        refine wnil (c_then ?_)
        refine c_ret ?_
        exact retct h rfl rfl rfl K.u_api_Key rfl K.sz_api_Key 1 rfl (by rw [arr8_size, hDl]) ⟨(), by rw [e, if_pos rfl], h.2.drop 2, trivial⟩

theorem stamp_Less (s w : World) (k l : List UInt8) (hk : k.length = 32) (hl : l.length = 32) (F : List HItem) (hs : Sat s w F) :
    Calls P n_stamp_Less #[.agg (arr8 k), .agg (arr8 l)] w (Ret s (fun _ : Unit => .bool (Op.bytesLess k l)) (fun _ => F) (fun _ => True)) := by
  refine enter K.fn_stamp_Less rfl K.nt_stamp_Less rfl hs ?_
  clear hs w; intro a w h
  refine c_seq (c_region ?_)
  refine wl rfl (op_box h rfl rfl ?_)
  clear h a w; intro b2 a w h
  try simp only [Value.cells] at h
  refine wl rfl (op_box h rfl rfl ?_)
  clear h a w; intro b3 a w h
  try simp only [Value.cells] at h
  refine wv h (r_assign h rfl) rfl ?_
  clear h a w; intro a w h
  refine wnil (c_then ?_)
  refine c_seq (c_draw K.mixed (by kernel_rfl) h ?_)
  clear h a w; intro a hE
  refine qv hE (fun w hw => r_sliceA ⟨hE, hw⟩ rfl K.u_api_Key K.sz_uint8 rfl) rfl ?_
  clear hE a; intro a hE
  refine qv hE (fun w hw => r_b2sb ⟨hE, hw⟩ rfl K.u_S_uint8 K.u_uint8 K.u_string (by first | exact ViewsB.own 0 rfl | exact ViewsB.own 1 rfl | exact ViewsB.own 2 rfl | exact ViewsB.own 3 rfl | exact ViewsB.own 4 rfl | exact ViewsB.own 5 rfl | assumption | exact ViewsB.nil _ | exact ViewsB.arr 0 rfl (by first | assumption | rfl | (simp; done)) (Nat.le_refl _) (by simp [maxLen]) | exact ViewsB.arr 1 rfl (by first | assumption | rfl | (simp; done)) (Nat.le_refl _) (by simp [maxLen]) | exact ViewsB.arr 2 rfl (by first | assumption | rfl | (simp; done)) (Nat.le_refl _) (by simp [maxLen]) | exact ViewsB.arr 3 rfl (by first | assumption | rfl | (simp; done)) (Nat.le_refl _) (by simp [maxLen]) | exact ViewsB.arr 4 rfl (by first | assumption | rfl | (simp; done)) (Nat.le_refl _) (by simp [maxLen]) | exact ViewsB.cons (by assumption) _ | exact ViewsB.cons (ViewsB.cons (by assumption) _) _ | exact ViewsB.cons (ViewsB.cons (ViewsB.cons (by assumption) _) _) _ | exact ViewsB.cons (ViewsB.cons (ViewsB.cons (ViewsB.cons (by assumption) _) _) _) _)) rfl ?_
  clear hE a; intro a hE
  refine qv hE (fun w hw => r_sliceA ⟨hE, hw⟩ rfl K.u_api_Key K.sz_uint8 rfl) rfl ?_
  clear hE a; intro a hE
  refine qv hE (fun w hw => r_b2sb ⟨hE, hw⟩ rfl K.u_S_uint8 K.u_uint8 K.u_string (by first | exact ViewsB.own 0 rfl | exact ViewsB.own 1 rfl | exact ViewsB.own 2 rfl | exact ViewsB.own 3 rfl | exact ViewsB.own 4 rfl | exact ViewsB.own 5 rfl | assumption | exact ViewsB.nil _ | exact ViewsB.arr 0 rfl (by first | assumption | rfl | (simp; done)) (Nat.le_refl _) (by simp [maxLen]) | exact ViewsB.arr 1 rfl (by first | assumption | rfl | (simp; done)) (Nat.le_refl _) (by simp [maxLen]) | exact ViewsB.arr 2 rfl (by first | assumption | rfl | (simp; done)) (Nat.le_refl _) (by simp [maxLen]) | exact ViewsB.arr 3 rfl (by first | assumption | rfl | (simp; done)) (Nat.le_refl _) (by simp [maxLen]) | exact ViewsB.arr 4 rfl (by first | assumption | rfl | (simp; done)) (Nat.le_refl _) (by simp [maxLen]) | exact ViewsB.cons (by assumption) _ | exact ViewsB.cons (ViewsB.cons (by assumption) _) _ | exact ViewsB.cons (ViewsB.cons (ViewsB.cons (by assumption) _) _) _ | exact ViewsB.cons (ViewsB.cons (ViewsB.cons (ViewsB.cons (by assumption) _) _) _) _)) rfl ?_
  clear hE a; intro a hE
  refine qv hE (fun w hw => r_strless ⟨hE, hw⟩ rfl rfl) rfl ?_
  clear hE a; intro a hE
  refine qv hE (fun w hw => r_assign ⟨hE, hw⟩ rfl) rfl ?_
  clear hE a; intro a hE
  refine qnil hE ?_
  clear hE a; intro a w h
  refine c_then ?_
  refine c_ret ?_
  exact ret1 h rfl rfl ⟨(), rfl, h.2.drop 2, trivial⟩
end Go.Proofs.K
