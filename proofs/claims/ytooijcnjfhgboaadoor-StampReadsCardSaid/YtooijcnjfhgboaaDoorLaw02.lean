/- The laws of layer 2, walked. -/
import Derived.Test.YtooijcnjfhgboaaDoorStampc
import Derived.Test.YtooijcnjfhgboaaDoorStampd
set_option linter.unusedVariables false
set_option linter.unusedSimpArgs false
set_option maxRecDepth 10000
set_option maxHeartbeats 1000000
namespace Go.Proofs.K
open Go.Sl

theorem wake02 : (hexOf (sha [97, 98, 99])).take 8 = [98, 97, 55, 56, 49, 54, 98, 102] := by decide +kernel

theorem law02_awake (s w : World) (F : List HItem) (hT : HasParts F) (hF : HasFirst F) (hs : Sat s w F) : Calls P n_law02_awake #[] w (Ret s (fun _ : Unit => .bool true) (fun _ => F) (fun _ => True)) := by
  refine enter K.fn_law02_awake rfl K.nt_law02_awake rfl hs ?_
  clear hs w; intro a w h
  refine c_seq (c_region ?_)
  refine wv h (r_assign h rfl) rfl ?_
  clear h a w; intro a w h
  refine wnil (c_then ?_)
  refine c_seq (c_region ?_)
  refine wl rfl (op_buildSlice h K.u_S_uint8 K.sz_uint8 K.z_uint8 rfl rfl rfl rfl rfl (by simp [Value.cells, bv, w32, w64, sv]) rfl ?_)
  clear h a w; intro b1 a w h
  refine wl rfl (op_lit h rfl K.u_S_uint8 K.u_uint8 0 rfl rfl ?_)
  clear h a w; intro a w h
  (try simp only [List.set_cons_zero, List.set_cons_succ] at h)
  replace h := h.toOwnb [97, 98, 99] (NF.past _) rfl rfl
  refine wl rfl (op_call h rfl K.go_stamp_Of (stamp_Of s _ _ _ _ (by first | assumption | exact CellsAt.cons (by assumption) _ | exact CellsAt.cons (CellsAt.cons (by assumption) _) _ | exact CellsAt.cons (CellsAt.cons (CellsAt.cons (by assumption) _) _) _ | exact CellsAt.cons (CellsAt.cons (CellsAt.cons (CellsAt.cons (by assumption) _) _) _) _) (by first | assumption | exact CellsAt.cons (by assumption) _ | exact CellsAt.cons (CellsAt.cons (by assumption) _) _ | exact CellsAt.cons (CellsAt.cons (CellsAt.cons (by assumption) _) _) _ | exact CellsAt.cons (CellsAt.cons (CellsAt.cons (CellsAt.cons (by assumption) _) _) _) _) (by first | exact ViewsB.own 0 rfl | exact ViewsB.own 1 rfl | exact ViewsB.own 2 rfl | exact ViewsB.own 3 rfl | exact ViewsB.own 4 rfl | exact ViewsB.own 5 rfl | assumption | exact ViewsB.nil _ | exact ViewsB.arr 0 rfl (by first | assumption | rfl | (simp; done)) (Nat.le_refl _) (by simp [maxLen]) | exact ViewsB.arr 1 rfl (by first | assumption | rfl | (simp; done)) (Nat.le_refl _) (by simp [maxLen]) | exact ViewsB.arr 2 rfl (by first | assumption | rfl | (simp; done)) (Nat.le_refl _) (by simp [maxLen]) | exact ViewsB.arr 3 rfl (by first | assumption | rfl | (simp; done)) (Nat.le_refl _) (by simp [maxLen]) | exact ViewsB.arr 4 rfl (by first | assumption | rfl | (simp; done)) (Nat.le_refl _) (by simp [maxLen]) | exact ViewsB.cons (by assumption) _ | exact ViewsB.cons (ViewsB.cons (by assumption) _) _ | exact ViewsB.cons (ViewsB.cons (ViewsB.cons (by assumption) _) _) _ | exact ViewsB.cons (ViewsB.cons (ViewsB.cons (ViewsB.cons (by assumption) _) _) _) _) (by first | omega | (simp only [List.length_cons, List.length_nil]; omega) | (simp; done) | (simp; omega)) h.2) rfl ?_)
  clear h a w; intro x a w hx h
  refine wl rfl (op_call h rfl K.go_stamp_Text (stamp_Text s _ _ (by first | rfl | assumption | (simp; done) | (simp; omega) | omega) _ h.2) rfl ?_)
  clear h a w; intro x a w hx h
  refine wl rfl (op_buildSlice h K.u_S_uint8 K.sz_uint8 K.z_uint8 rfl rfl rfl rfl rfl (by simp [Value.cells, bv, w32, w64, sv]) rfl ?_)
  clear h a w; intro b5 a w h
  refine wl rfl (op_lit h rfl K.u_S_uint8 K.u_uint8 0 rfl rfl ?_)
  clear h a w; intro a w h
  (try simp only [List.set_cons_zero, List.set_cons_succ] at h)
  replace h := h.toOwnb [97, 98, 99] (NF.past _) rfl rfl
  refine wl rfl (op_call h rfl K.go_stamp_Of (stamp_Of s _ _ _ _ (by first | assumption | exact CellsAt.cons (by assumption) _ | exact CellsAt.cons (CellsAt.cons (by assumption) _) _ | exact CellsAt.cons (CellsAt.cons (CellsAt.cons (by assumption) _) _) _ | exact CellsAt.cons (CellsAt.cons (CellsAt.cons (CellsAt.cons (by assumption) _) _) _) _) (by first | assumption | exact CellsAt.cons (by assumption) _ | exact CellsAt.cons (CellsAt.cons (by assumption) _) _ | exact CellsAt.cons (CellsAt.cons (CellsAt.cons (by assumption) _) _) _ | exact CellsAt.cons (CellsAt.cons (CellsAt.cons (CellsAt.cons (by assumption) _) _) _) _) (by first | exact ViewsB.own 0 rfl | exact ViewsB.own 1 rfl | exact ViewsB.own 2 rfl | exact ViewsB.own 3 rfl | exact ViewsB.own 4 rfl | exact ViewsB.own 5 rfl | assumption | exact ViewsB.nil _ | exact ViewsB.arr 0 rfl (by first | assumption | rfl | (simp; done)) (Nat.le_refl _) (by simp [maxLen]) | exact ViewsB.arr 1 rfl (by first | assumption | rfl | (simp; done)) (Nat.le_refl _) (by simp [maxLen]) | exact ViewsB.arr 2 rfl (by first | assumption | rfl | (simp; done)) (Nat.le_refl _) (by simp [maxLen]) | exact ViewsB.arr 3 rfl (by first | assumption | rfl | (simp; done)) (Nat.le_refl _) (by simp [maxLen]) | exact ViewsB.arr 4 rfl (by first | assumption | rfl | (simp; done)) (Nat.le_refl _) (by simp [maxLen]) | exact ViewsB.cons (by assumption) _ | exact ViewsB.cons (ViewsB.cons (by assumption) _) _ | exact ViewsB.cons (ViewsB.cons (ViewsB.cons (by assumption) _) _) _ | exact ViewsB.cons (ViewsB.cons (ViewsB.cons (ViewsB.cons (by assumption) _) _) _) _) (by first | omega | (simp only [List.length_cons, List.length_nil]; omega) | (simp; done) | (simp; omega)) h.2) rfl ?_)
  clear h a w; intro x a w hx h
  refine wl rfl (op_call h rfl K.go_stamp_Text (stamp_Text s _ _ (by first | rfl | assumption | (simp; done) | (simp; omega) | omega) _ h.2) rfl ?_)
  clear h a w; intro x a w hx h
  refine wv h (r_lenT h rfl K.u_string) rfl ?_
  clear h a w; intro a w h
  have hl : (hexOf (sha [97, 98, 99])).length = 64 := by rw [hexOf_len, sha_len]
  refine wv h (r_min2 h rfl rfl) rfl ?_
  clear h a w; intro a w h
  refine wv h (r_sliceT h rfl K.u_string _ _ Bnd.no (Bnd.of rfl (by omega)) (by first | omega | (simp only [List.length_cons, List.length_nil]; omega) | (simp; done) | (simp; omega)) (by first | omega | (simp only [List.length_cons, List.length_nil]; omega) | (simp; done) | (simp; omega))) rfl ?_
  clear h a w; intro a w h
  rw [show min 8 (hexOf (sha [97, 98, 99])).length - 0 = 8 by omega, List.drop_zero, wake02] at h
  refine wv h (r_streq h rfl rfl) rfl ?_
  clear h a w; intro a w h
  refine wv h (r_assign h rfl) rfl ?_
  clear h a w; intro a w h
  refine wnil (c_then ?_)
  refine c_ret ?_
  exact ret1 h rfl rfl ⟨(), rfl, h.2.drop 2, trivial⟩

theorem stampOf (s w : World) (v : Value) (p : List UInt8) (F : List HItem) (hT : HasParts F) (hF : HasFirst F) (hv : ViewsB F v p) (hs : Sat s w F) :
    Calls P n_law02_StampOf #[v] w (Ret s (fun _ : Unit => .bool true) (fun _ => F) (fun _ => True)) := by
  refine enter K.fn_law02_StampOf rfl K.nt_law02_StampOf rfl hs ?_
  clear hs w; intro a w h
  refine c_seq (c_region ?_)
  refine wv h (r_assign h rfl) rfl ?_
  clear h a w; intro a w h
  refine wnil (c_then ?_)
  refine c_seq ?_
  refine c_seq (c_region ?_)
  refine wl rfl (op_call h rfl K.go_law02_awake (law02_awake s _ _ (by first | assumption | exact CellsAt.cons (by assumption) _ | exact CellsAt.cons (CellsAt.cons (by assumption) _) _ | exact CellsAt.cons (CellsAt.cons (CellsAt.cons (by assumption) _) _) _ | exact CellsAt.cons (CellsAt.cons (CellsAt.cons (CellsAt.cons (by assumption) _) _) _) _) (by first | assumption | exact CellsAt.cons (by assumption) _ | exact CellsAt.cons (CellsAt.cons (by assumption) _) _ | exact CellsAt.cons (CellsAt.cons (CellsAt.cons (by assumption) _) _) _ | exact CellsAt.cons (CellsAt.cons (CellsAt.cons (CellsAt.cons (by assumption) _) _) _) _) h.2) rfl ?_)
  clear h a w; intro x a w hx h
  refine wv h (r_not h rfl) rfl ?_
  clear h a w; intro a w h
  refine wv h (r_move h rfl) rfl ?_
  clear h a w; intro a w h
  refine wvG h (by first | exact .t rfl | exact .f rfl | exact .gt rfl | exact .gf rfl) (fun hg => by (try simp only [gval_on hg, gval_and hg] at h); (have hg2 := hg; (try simp only [Bool.and_eq_true, Bool.or_eq_true, Bool.not_eq_true', decide_eq_true_eq, decide_eq_false_iff_not] at hg2)); first | exact r_move h rfl) rfl ?_
  clear h a w; intro a w h
  refine wvG h (by first | exact .t rfl | exact .f rfl | exact .gt rfl | exact .gf rfl) (fun hg => by (try simp only [gval_on hg, gval_and hg] at h); (have hg2 := hg; (try simp only [Bool.and_eq_true, Bool.or_eq_true, Bool.not_eq_true', decide_eq_true_eq, decide_eq_false_iff_not] at hg2)); first | exact r_lenB h rfl K.u_S_uint8 (by first | exact ViewsB.own 0 rfl | exact ViewsB.own 1 rfl | exact ViewsB.own 2 rfl | exact ViewsB.own 3 rfl | exact ViewsB.own 4 rfl | exact ViewsB.own 5 rfl | assumption | exact ViewsB.nil _ | exact ViewsB.arr 0 rfl (by first | assumption | rfl | (simp; done)) (Nat.le_refl _) (by simp [maxLen]) | exact ViewsB.arr 1 rfl (by first | assumption | rfl | (simp; done)) (Nat.le_refl _) (by simp [maxLen]) | exact ViewsB.arr 2 rfl (by first | assumption | rfl | (simp; done)) (Nat.le_refl _) (by simp [maxLen]) | exact ViewsB.arr 3 rfl (by first | assumption | rfl | (simp; done)) (Nat.le_refl _) (by simp [maxLen]) | exact ViewsB.arr 4 rfl (by first | assumption | rfl | (simp; done)) (Nat.le_refl _) (by simp [maxLen]) | exact ViewsB.cons (by assumption) _ | exact ViewsB.cons (ViewsB.cons (by assumption) _) _ | exact ViewsB.cons (ViewsB.cons (ViewsB.cons (by assumption) _) _) _ | exact ViewsB.cons (ViewsB.cons (ViewsB.cons (ViewsB.cons (by assumption) _) _) _) _)) rfl ?_
  clear h a w; intro a w h
  refine wvG h (by first | exact .t rfl | exact .f rfl | exact .gt rfl | exact .gf rfl) (fun hg => by (try simp only [gval_on hg, gval_and hg] at h); (have hg2 := hg; (try simp only [Bool.and_eq_true, Bool.or_eq_true, Bool.not_eq_true', decide_eq_true_eq, decide_eq_false_iff_not] at hg2)); first | exact r_bin h rfl rfl (B.gtr_int)) rfl ?_
  clear h a w; intro a w h
  first
    | (refine wv h (r_pickA h rfl rfl rfl) rfl ?_)
    | (refine wv h (r_pickO h rfl rfl rfl) rfl ?_)
    | (refine wv h (r_pick_true h rfl rfl) rfl ?_)
    | (refine wv h (r_pick_false h rfl rfl) rfl ?_)
    | (refine wv h (r_pick h rfl rfl rfl) rfl ?_)
  clear h a w; intro a w h
  refine wnil (c_then ?_)
  first
    | refine c_condD h rfl (fun ht1 => ?_) (fun ht1 => ?_)
    | refine c_condP h rfl (by first | (simp only [Bool.and_eq_true, Bool.or_eq_true, Bool.not_eq_true', decide_eq_true_eq, decide_eq_false_iff_not, ne_eq, Bool.not_eq_eq_eq_not, Bool.not_true, beq_iff_eq, bne_iff_ne]; exact Iff.rfl) | exact Iff.rfl) (fun ht1 => ?_) (fun ht1 => ?_)
  ·
    as_aux_lemma =>
      refine c_seq (c_region ?_)
      refine wl rfl (op_call h rfl K.go_law02_awake (law02_awake s _ _ (by first | assumption | exact CellsAt.cons (by assumption) _ | exact CellsAt.cons (CellsAt.cons (by assumption) _) _ | exact CellsAt.cons (CellsAt.cons (CellsAt.cons (by assumption) _) _) _ | exact CellsAt.cons (CellsAt.cons (CellsAt.cons (CellsAt.cons (by assumption) _) _) _) _) (by first | assumption | exact CellsAt.cons (by assumption) _ | exact CellsAt.cons (CellsAt.cons (by assumption) _) _ | exact CellsAt.cons (CellsAt.cons (CellsAt.cons (by assumption) _) _) _ | exact CellsAt.cons (CellsAt.cons (CellsAt.cons (CellsAt.cons (by assumption) _) _) _) _) h.2) rfl ?_)
      clear h a w; intro x a w hx h
      refine wv h (r_assign h rfl) rfl ?_
      clear h a w; intro a w h
      refine wnil (c_then ?_)
      refine c_ret ?_
      exact ret1 h rfl rfl ⟨(), by simp, h.2, trivial⟩
  ·
    refine c_skip ?_
    refine c_then ?_
    refine c_seq (c_region ?_)
    refine wv h (r_move h rfl) rfl ?_
    clear h a w; intro a w h
    refine wl rfl (op_call h rfl K.go_stamp_Of (stamp_Of s _ _ _ _ (by first | assumption | exact CellsAt.cons (by assumption) _ | exact CellsAt.cons (CellsAt.cons (by assumption) _) _ | exact CellsAt.cons (CellsAt.cons (CellsAt.cons (by assumption) _) _) _ | exact CellsAt.cons (CellsAt.cons (CellsAt.cons (CellsAt.cons (by assumption) _) _) _) _) (by first | assumption | exact CellsAt.cons (by assumption) _ | exact CellsAt.cons (CellsAt.cons (by assumption) _) _ | exact CellsAt.cons (CellsAt.cons (CellsAt.cons (by assumption) _) _) _ | exact CellsAt.cons (CellsAt.cons (CellsAt.cons (CellsAt.cons (by assumption) _) _) _) _) (by first | exact ViewsB.own 0 rfl | exact ViewsB.own 1 rfl | exact ViewsB.own 2 rfl | exact ViewsB.own 3 rfl | exact ViewsB.own 4 rfl | exact ViewsB.own 5 rfl | assumption | exact ViewsB.nil _ | exact ViewsB.arr 0 rfl (by first | assumption | rfl | (simp; done)) (Nat.le_refl _) (by simp [maxLen]) | exact ViewsB.arr 1 rfl (by first | assumption | rfl | (simp; done)) (Nat.le_refl _) (by simp [maxLen]) | exact ViewsB.arr 2 rfl (by first | assumption | rfl | (simp; done)) (Nat.le_refl _) (by simp [maxLen]) | exact ViewsB.arr 3 rfl (by first | assumption | rfl | (simp; done)) (Nat.le_refl _) (by simp [maxLen]) | exact ViewsB.arr 4 rfl (by first | assumption | rfl | (simp; done)) (Nat.le_refl _) (by simp [maxLen]) | exact ViewsB.cons (by assumption) _ | exact ViewsB.cons (ViewsB.cons (by assumption) _) _ | exact ViewsB.cons (ViewsB.cons (ViewsB.cons (by assumption) _) _) _ | exact ViewsB.cons (ViewsB.cons (ViewsB.cons (ViewsB.cons (by assumption) _) _) _) _) (by first | omega | (simp only [List.length_cons, List.length_nil]; omega) | (simp; done) | (simp; omega)) h.2) rfl ?_)
    clear h a w; intro x a w hx h
    refine wv h (r_move h rfl) rfl ?_
    clear h a w; intro a w h
    refine wl rfl (op_call h rfl K.go_ref01_Stamp (ref_Stamp s _ _ _ _ (by first | exact ViewsB.own 0 rfl | exact ViewsB.own 1 rfl | exact ViewsB.own 2 rfl | exact ViewsB.own 3 rfl | exact ViewsB.own 4 rfl | exact ViewsB.own 5 rfl | assumption | exact ViewsB.nil _ | exact ViewsB.arr 0 rfl (by first | assumption | rfl | (simp; done)) (Nat.le_refl _) (by simp [maxLen]) | exact ViewsB.arr 1 rfl (by first | assumption | rfl | (simp; done)) (Nat.le_refl _) (by simp [maxLen]) | exact ViewsB.arr 2 rfl (by first | assumption | rfl | (simp; done)) (Nat.le_refl _) (by simp [maxLen]) | exact ViewsB.arr 3 rfl (by first | assumption | rfl | (simp; done)) (Nat.le_refl _) (by simp [maxLen]) | exact ViewsB.arr 4 rfl (by first | assumption | rfl | (simp; done)) (Nat.le_refl _) (by simp [maxLen]) | exact ViewsB.cons (by assumption) _ | exact ViewsB.cons (ViewsB.cons (by assumption) _) _ | exact ViewsB.cons (ViewsB.cons (ViewsB.cons (by assumption) _) _) _ | exact ViewsB.cons (ViewsB.cons (ViewsB.cons (ViewsB.cons (by assumption) _) _) _) _) (by first | omega | (simp only [List.length_cons, List.length_nil]; omega) | (simp; done) | (simp; omega)) h.2) rfl ?_)
    clear h a w; intro x a w hx h
    refine wv h (r_arreq h rfl rfl K.u_api_Key K.u_uint8 K.sz_uint8 (by kernel_rfl) (by first | rfl | assumption | (simp; done) | (simp; omega) | omega) (by first | rfl | assumption | (simp; done) | (simp; omega) | omega)) rfl ?_
    clear h a w; intro a w h
    refine wv h (r_assign h rfl) rfl ?_
    clear h a w; intro a w h
    refine wnil (c_then ?_)
    refine c_ret ?_
    exact ret1 h rfl rfl ⟨(), by simp, h.2, trivial⟩

theorem stampSizes (s w : World) (k : UInt8) (F : List HItem) (hT : HasParts F) (hF : HasFirst F) (hs : Sat s w F) :
    Calls P n_law02_StampSizes #[bv k] w (Ret s (fun _ : Unit => .bool true) (fun _ => F) (fun _ => True)) := by
  have hk := k.toNat_lt
  refine enter K.fn_law02_StampSizes rfl K.nt_law02_StampSizes rfl hs ?_
  clear hs w; intro a w h
  refine c_seq (c_region ?_)
  refine wv h (r_assign h rfl) rfl ?_
  clear h a w; intro a w h
  refine wnil (c_then ?_)
  refine c_seq (c_region ?_)
  refine wv h (r_move h rfl) rfl ?_
  clear h a w; intro a w h
  refine wv h (r_conv h rfl K.u_uint8 K.u_int (C.i64_u8) ) rfl ?_
  clear h a w; intro a w h
  refine wl rfl (op_mkB h K.u_S_uint8 K.sz_uint8 K.z_uint8 rfl rfl (by omega) (by omega) (by first | omega | (simp only [List.length_cons, List.length_nil]; omega) | (simp; done) | (simp; omega)) (by first | omega | (simp only [List.length_cons, List.length_nil]; omega) | (simp; done) | (simp; omega)) rfl rfl ?_)
  clear h a w; intro v6 a w h
  refine wv h (r_assign h rfl) rfl ?_
  clear h a w; intro a w h
  refine wnil (c_then ?_)
  refine c_seq (c_region ?_)
  refine wl rfl (op_call h rfl K.go_law02_awake (law02_awake s _ _ (by first | assumption | exact CellsAt.cons (by assumption) _ | exact CellsAt.cons (CellsAt.cons (by assumption) _) _ | exact CellsAt.cons (CellsAt.cons (CellsAt.cons (by assumption) _) _) _ | exact CellsAt.cons (CellsAt.cons (CellsAt.cons (CellsAt.cons (by assumption) _) _) _) _) (by first | assumption | exact CellsAt.cons (by assumption) _ | exact CellsAt.cons (CellsAt.cons (by assumption) _) _ | exact CellsAt.cons (CellsAt.cons (CellsAt.cons (by assumption) _) _) _ | exact CellsAt.cons (CellsAt.cons (CellsAt.cons (CellsAt.cons (by assumption) _) _) _) _) h.2) rfl ?_)
  clear h a w; intro x a w hx h
  refine wv h (r_move h rfl) rfl ?_
  clear h a w; intro a w h
  refine wvG h (by first | exact .t rfl | exact .f rfl | exact .gt rfl | exact .gf rfl) (fun hg => by (try simp only [gval_on hg, gval_and hg] at h); (have hg2 := hg; (try simp only [Bool.and_eq_true, Bool.or_eq_true, Bool.not_eq_true', decide_eq_true_eq, decide_eq_false_iff_not] at hg2)); first | exact r_move h rfl) rfl ?_
  clear h a w; intro a w h
  refine wcG h (by first | exact .t rfl | exact .f rfl | exact .gt rfl | exact .gf rfl) K.go_stamp_Of (fun hg => by (try simp only [gval_on hg, gval_and hg]); (have hg2 := hg; (try simp only [Bool.and_eq_true, Bool.or_eq_true, Bool.not_eq_true', decide_eq_true_eq, decide_eq_false_iff_not] at hg2)); exact ⟨_, rfl, stamp_Of s _ _ _ _ (by first | assumption | exact CellsAt.cons (by assumption) _ | exact CellsAt.cons (CellsAt.cons (by assumption) _) _ | exact CellsAt.cons (CellsAt.cons (CellsAt.cons (by assumption) _) _) _ | exact CellsAt.cons (CellsAt.cons (CellsAt.cons (CellsAt.cons (by assumption) _) _) _) _) (by first | assumption | exact CellsAt.cons (by assumption) _ | exact CellsAt.cons (CellsAt.cons (by assumption) _) _ | exact CellsAt.cons (CellsAt.cons (CellsAt.cons (by assumption) _) _) _ | exact CellsAt.cons (CellsAt.cons (CellsAt.cons (CellsAt.cons (by assumption) _) _) _) _) (by first | exact ViewsB.own 0 rfl | exact ViewsB.own 1 rfl | exact ViewsB.own 2 rfl | exact ViewsB.own 3 rfl | exact ViewsB.own 4 rfl | exact ViewsB.own 5 rfl | assumption | exact ViewsB.nil _ | exact ViewsB.arr 0 rfl (by first | assumption | rfl | (simp; done)) (Nat.le_refl _) (by simp [maxLen]) | exact ViewsB.arr 1 rfl (by first | assumption | rfl | (simp; done)) (Nat.le_refl _) (by simp [maxLen]) | exact ViewsB.arr 2 rfl (by first | assumption | rfl | (simp; done)) (Nat.le_refl _) (by simp [maxLen]) | exact ViewsB.arr 3 rfl (by first | assumption | rfl | (simp; done)) (Nat.le_refl _) (by simp [maxLen]) | exact ViewsB.arr 4 rfl (by first | assumption | rfl | (simp; done)) (Nat.le_refl _) (by simp [maxLen]) | exact ViewsB.cons (by assumption) _ | exact ViewsB.cons (ViewsB.cons (by assumption) _) _ | exact ViewsB.cons (ViewsB.cons (ViewsB.cons (by assumption) _) _) _ | exact ViewsB.cons (ViewsB.cons (ViewsB.cons (ViewsB.cons (by assumption) _) _) _) _) (by first | omega | (simp only [List.length_cons, List.length_nil]; omega) | (simp; done) | (simp; omega)) h.2⟩) rfl ?_
  clear h a w; intro a w h
  refine wvG h (by first | exact .t rfl | exact .f rfl | exact .gt rfl | exact .gf rfl) (fun hg => by (try simp only [gval_on hg, gval_and hg] at h); (have hg2 := hg; (try simp only [Bool.and_eq_true, Bool.or_eq_true, Bool.not_eq_true', decide_eq_true_eq, decide_eq_false_iff_not] at hg2)); first | exact r_move h rfl) rfl ?_
  clear h a w; intro a w h
  refine wcG h (by first | exact .t rfl | exact .f rfl | exact .gt rfl | exact .gf rfl) K.go_ref01_Stamp (fun hg => by (try simp only [gval_on hg, gval_and hg]); (have hg2 := hg; (try simp only [Bool.and_eq_true, Bool.or_eq_true, Bool.not_eq_true', decide_eq_true_eq, decide_eq_false_iff_not] at hg2)); exact ⟨_, rfl, ref_Stamp s _ _ _ _ (by first | exact ViewsB.own 0 rfl | exact ViewsB.own 1 rfl | exact ViewsB.own 2 rfl | exact ViewsB.own 3 rfl | exact ViewsB.own 4 rfl | exact ViewsB.own 5 rfl | assumption | exact ViewsB.nil _ | exact ViewsB.arr 0 rfl (by first | assumption | rfl | (simp; done)) (Nat.le_refl _) (by simp [maxLen]) | exact ViewsB.arr 1 rfl (by first | assumption | rfl | (simp; done)) (Nat.le_refl _) (by simp [maxLen]) | exact ViewsB.arr 2 rfl (by first | assumption | rfl | (simp; done)) (Nat.le_refl _) (by simp [maxLen]) | exact ViewsB.arr 3 rfl (by first | assumption | rfl | (simp; done)) (Nat.le_refl _) (by simp [maxLen]) | exact ViewsB.arr 4 rfl (by first | assumption | rfl | (simp; done)) (Nat.le_refl _) (by simp [maxLen]) | exact ViewsB.cons (by assumption) _ | exact ViewsB.cons (ViewsB.cons (by assumption) _) _ | exact ViewsB.cons (ViewsB.cons (ViewsB.cons (by assumption) _) _) _ | exact ViewsB.cons (ViewsB.cons (ViewsB.cons (ViewsB.cons (by assumption) _) _) _) _) (by first | omega | (simp only [List.length_cons, List.length_nil]; omega) | (simp; done) | (simp; omega)) h.2⟩) rfl ?_
  clear h a w; intro a w h
  refine wvG h (by first | exact .t rfl | exact .f rfl | exact .gt rfl | exact .gf rfl) (fun hg => by (try simp only [gval_on hg, gval_and hg] at h); (have hg2 := hg; (try simp only [Bool.and_eq_true, Bool.or_eq_true, Bool.not_eq_true', decide_eq_true_eq, decide_eq_false_iff_not] at hg2)); first | exact r_arreq h rfl rfl K.u_api_Key K.u_uint8 K.sz_uint8 (by kernel_rfl) (by first | rfl | assumption | (simp; done) | (simp; omega) | omega) (by first | rfl | assumption | (simp; done) | (simp; omega) | omega)) rfl ?_
  clear h a w; intro a w h
  first
    | (refine wv h (r_pickA h rfl rfl rfl) rfl ?_)
    | (refine wv h (r_pickO h rfl rfl rfl) rfl ?_)
    | (refine wv h (r_pick_true h rfl rfl) rfl ?_)
    | (refine wv h (r_pick_false h rfl rfl) rfl ?_)
    | (refine wv h (r_pick h rfl rfl rfl) rfl ?_)
  clear h a w; intro a w h
  refine wv h (r_assign h rfl) rfl ?_
  clear h a w; intro a w h
  refine wnil (c_then ?_)
  refine c_ret ?_
  exact ret1 h rfl rfl ⟨(), by simp, h.2.drop 1, trivial⟩

end Go.Proofs.K
