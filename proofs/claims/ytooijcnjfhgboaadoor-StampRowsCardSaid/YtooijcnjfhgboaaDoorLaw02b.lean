/- The laws of layer 2 on keys, walked. -/
import Derived.Test.YtooijcnjfhgboaaDoorLaw02
import Derived.Test.YtooijcnjfhgboaaDoorKeyPure
set_option linter.unusedVariables false
set_option linter.unusedSimpArgs false
set_option maxRecDepth 10000
set_option maxHeartbeats 6000000
namespace Go.Proofs.K
open Go.Sl

theorem stampLess (s w : World) (la lb : List UInt8) (at_ : UInt8) (same : Bool) (hla : la.length = 32) (hlb : lb.length = 32) (F : List HItem) (hT : HasParts F) (hF : HasFirst F) (hs : Sat s w F) :
    Calls P n_law02_StampLess #[.agg (arr8 la), .agg (arr8 lb), bv at_, .bool same] w (Ret s (fun _ : Unit => .bool true) (fun _ => F) (fun _ => True)) := by
  have hm : (at_ % 32).toNat = at_.toNat % 32 := by rw [UInt8.toNat_mod]; rfl
  refine enter K.fn_law02_StampLess rfl K.nt_law02_StampLess rfl hs ?_
  clear hs w; intro a w h
  refine c_seq (c_region ?_)
  refine wl rfl (op_box h rfl rfl ?_)
  clear h a w; intro b4 a w h
  try simp only [Value.cells] at h
  refine wl rfl (op_box h rfl rfl ?_)
  clear h a w; intro b5 a w h
  try simp only [Value.cells] at h
  refine wv h (r_assign h rfl) rfl ?_
  clear h a w; intro a w h
  refine wnil (c_then ?_)
  refine c_meet h (X := List UInt8) (fun _ => [(4, .pointer (some ⟨b4, 0, none⟩)), (5, .pointer (some ⟨b5, 0, none⟩))]) (fun z => Blk b5 (.cells (arr8 z) t_A32_uint8) :: Blk b4 (.cells (arr8 la) t_A32_uint8) :: F) (fun z => z.length = 32) ?_ ?_
  ·
    refine c_seq (c_region ?_)
    refine wv h (r_move h rfl) rfl ?_
    clear h a w; intro a w h
    refine wnil (c_then ?_)
    first
      | refine c_condD h rfl (fun ht1 => ?_) (fun ht1 => ?_)
      | refine c_condP h rfl (by first | (simp only [Bool.and_eq_true, Bool.or_eq_true, Bool.not_eq_true', decide_eq_true_eq, decide_eq_false_iff_not, ne_eq, Bool.not_eq_eq_eq_not, Bool.not_true, beq_iff_eq, bne_iff_ne]; exact Iff.rfl) | exact Iff.rfl) (fun ht1 => ?_) (fun ht1 => ?_)
    ·
      as_aux_lemma =>
        refine c_seq (c_region ?_)
        first
          | (refine wv h (r_loadA8 h rfl K.u_A32_uint8 rfl K.sz_A32_uint8 0 rfl (by first | rfl | assumption | (simp; done) | (simp; omega) | omega)) rfl ?_)
          | (refine wv h (r_loadA8 h rfl K.u_A32_uint8 rfl K.sz_A32_uint8 1 rfl (by first | rfl | assumption | (simp; done) | (simp; omega) | omega)) rfl ?_)
          | (refine wv h (r_loadA8 h rfl K.u_A32_uint8 rfl K.sz_A32_uint8 2 rfl (by first | rfl | assumption | (simp; done) | (simp; omega) | omega)) rfl ?_)
          | (refine wv h (r_loadA8 h rfl K.u_A32_uint8 rfl K.sz_A32_uint8 3 rfl (by first | rfl | assumption | (simp; done) | (simp; omega) | omega)) rfl ?_)
          | (refine wv h (r_loadA8 h rfl K.u_A32_uint8 rfl K.sz_A32_uint8 4 rfl (by first | rfl | assumption | (simp; done) | (simp; omega) | omega)) rfl ?_)
          | (refine wv h (r_loadA8 h rfl K.u_A32_uint8 rfl K.sz_A32_uint8 5 rfl (by first | rfl | assumption | (simp; done) | (simp; omega) | omega)) rfl ?_)
          | (refine wv h (r_loadCA h rfl K.u_A32_uint8 rfl K.sz_A32_uint8 (by assumption) (by first | rfl | assumption | (simp; done) | (simp; omega) | omega)) rfl ?_)
        clear h a w; intro a w h
        first
          | (refine wl rfl (op_storeA8 h rfl rfl K.sz_A32_uint8 (by first | rfl | assumption | (simp; done) | (simp; omega) | omega) 0 rfl (by first | rfl | (simp [arr8]; done) | (simp [arr8]; omega) | (simp [arr8]; assumption)) ?_))
          | (refine wl rfl (op_storeA8 h rfl rfl K.sz_A32_uint8 (by first | rfl | assumption | (simp; done) | (simp; omega) | omega) 1 rfl (by first | rfl | (simp [arr8]; done) | (simp [arr8]; omega) | (simp [arr8]; assumption)) ?_))
          | (refine wl rfl (op_storeA8 h rfl rfl K.sz_A32_uint8 (by first | rfl | assumption | (simp; done) | (simp; omega) | omega) 2 rfl (by first | rfl | (simp [arr8]; done) | (simp [arr8]; omega) | (simp [arr8]; assumption)) ?_))
          | (refine wl rfl (op_storeA8 h rfl rfl K.sz_A32_uint8 (by first | rfl | assumption | (simp; done) | (simp; omega) | omega) 3 rfl (by first | rfl | (simp [arr8]; done) | (simp [arr8]; omega) | (simp [arr8]; assumption)) ?_))
          | (refine wl rfl (op_storeA8 h rfl rfl K.sz_A32_uint8 (by first | rfl | assumption | (simp; done) | (simp; omega) | omega) 4 rfl (by first | rfl | (simp [arr8]; done) | (simp [arr8]; omega) | (simp [arr8]; assumption)) ?_))
          | (refine wl rfl (op_storeA8 h rfl rfl K.sz_A32_uint8 (by first | rfl | assumption | (simp; done) | (simp; omega) | omega) 5 rfl (by first | rfl | (simp [arr8]; done) | (simp [arr8]; omega) | (simp [arr8]; assumption)) ?_))
        clear h a w; intro a w h
        (try simp only [List.set_cons_zero, List.set_cons_succ] at h)
        refine wnil (c_then ?_)
        refine c_region ?_
        refine wv h (r_move h rfl) rfl ?_
        clear h a w; intro a w h
        refine wv h (r_bin h rfl rfl (B.rem_u8 (y := 32) (by decide))) rfl ?_
        clear h a w; intro a w h
        refine wv h (r_move h rfl) rfl ?_
        clear h a w; intro a w h
        refine wv h (r_bin h rfl rfl (B.rem_u8 (y := 32) (by decide))) rfl ?_
        clear h a w; intro a w h
        refine wv h (r_arP h rfl rfl K.u_A32_uint8 K.sz_uint8 (by omega) (by first | omega | (simp only [List.length_cons, List.length_nil]; omega) | (simp; omega))) rfl ?_
        clear h a w; intro a w h
        first
          | (refine wv h (r_ar8 h rfl K.u_uint8 rfl 0 rfl (by first | omega | (simp only [List.length_cons, List.length_nil]; omega) | (simp; omega))) rfl ?_)
          | (refine wv h (r_ar8 h rfl K.u_uint8 rfl 1 rfl (by first | omega | (simp only [List.length_cons, List.length_nil]; omega) | (simp; omega))) rfl ?_)
          | (refine wv h (r_ar8 h rfl K.u_uint8 rfl 2 rfl (by first | omega | (simp only [List.length_cons, List.length_nil]; omega) | (simp; omega))) rfl ?_)
          | (refine wv h (r_ar8 h rfl K.u_uint8 rfl 3 rfl (by first | omega | (simp only [List.length_cons, List.length_nil]; omega) | (simp; omega))) rfl ?_)
          | (refine wv h (r_ar8 h rfl K.u_uint8 rfl 4 rfl (by first | omega | (simp only [List.length_cons, List.length_nil]; omega) | (simp; omega))) rfl ?_)
          | (refine wv h (r_ar8 h rfl K.u_uint8 rfl 5 rfl (by first | omega | (simp only [List.length_cons, List.length_nil]; omega) | (simp; omega))) rfl ?_)
        clear h a w; intro a w h
        refine wv h (r_move h rfl) rfl ?_
        clear h a w; intro a w h
        refine wv h (r_bin h rfl rfl (B.xor_u8)) rfl ?_
        clear h a w; intro a w h
        refine wv h (r_arP h rfl rfl K.u_A32_uint8 K.sz_uint8 (by omega) (by first | omega | (simp only [List.length_cons, List.length_nil]; omega) | (simp; omega))) rfl ?_
        clear h a w; intro a w h
        first
          | (refine wl rfl (op_store8 h rfl rfl K.sz_uint8 0 rfl (by first | omega | (simp only [List.length_cons, List.length_nil]; omega) | (simp; omega)) ?_))
          | (refine wl rfl (op_store8 h rfl rfl K.sz_uint8 1 rfl (by first | omega | (simp only [List.length_cons, List.length_nil]; omega) | (simp; omega)) ?_))
          | (refine wl rfl (op_store8 h rfl rfl K.sz_uint8 2 rfl (by first | omega | (simp only [List.length_cons, List.length_nil]; omega) | (simp; omega)) ?_))
          | (refine wl rfl (op_store8 h rfl rfl K.sz_uint8 3 rfl (by first | omega | (simp only [List.length_cons, List.length_nil]; omega) | (simp; omega)) ?_))
          | (refine wl rfl (op_store8 h rfl rfl K.sz_uint8 4 rfl (by first | omega | (simp only [List.length_cons, List.length_nil]; omega) | (simp; omega)) ?_))
          | (refine wl rfl (op_store8 h rfl rfl K.sz_uint8 5 rfl (by first | omega | (simp only [List.length_cons, List.length_nil]; omega) | (simp; omega)) ?_))
        clear h a w; intro a w h
        (try simp only [List.set_cons_zero, List.set_cons_succ] at h)
        refine wnil ?_
        exact ⟨_, h.keep [4, 5], by simp [hla]⟩
    ·
      refine c_skip ?_
      exact ⟨lb, h.keep [4, 5], hlb⟩
  ·
    clear h a w; intro z a w hz h
    replace hz : z.length = 32 := hz
    have e : Op.bytesLess (la.drop 32) (z.drop 32) = false := by rw [List.drop_eq_nil_iff.2 (by omega), List.drop_eq_nil_iff.2 (by omega)]; rfl
    refine c_seq (c_region ?_)
    refine wv h (r_assign h rfl) rfl ?_
    clear h a w; intro a w h
    refine wnil (c_then ?_)
    refine c_seq ?_
    refine c_seq (c_region ?_)
    refine wv h (r_assign h rfl) rfl ?_
    clear h a w; intro a w h
    refine wnil (c_then ?_)
    refine c_block ?_
    refine c_loopX h (X := Nat) (fun k => [(4, .pointer (some ⟨b4, 0, none⟩)), (5, .pointer (some ⟨b5, 0, none⟩)), (9, .bool (Op.bytesLess (la.drop k) (z.drop k))), (10, .int .i64 ((k : Int) - 1))])
      (fun _ => Blk b5 (.cells (arr8 z) t_A32_uint8) :: Blk b4 (.cells (arr8 la) t_A32_uint8) :: F) (fun k => k ≤ 32) (fun k => k) 32 ?_ (Nat.le_refl _) ?_
    · rw [e]; exact h.keep [4, 5, 9, 10]
    clear h a w; intro k a w hx h
    as_aux_lemma =>
      refine c_seq ?_
      refine c_seq (c_region ?_)
      refine wv h (r_move h rfl) rfl ?_
      clear h a w; intro a w h
      refine wv h (r_bin h rfl rfl (B.geq_int)) rfl ?_
      clear h a w; intro a w h
      refine wnil (c_then ?_)
      first
        | refine c_condD h rfl (fun ht2 => ?_) (fun ht2 => ?_)
        | refine c_condP h rfl (by first | (simp only [Bool.and_eq_true, Bool.or_eq_true, Bool.not_eq_true', decide_eq_true_eq, decide_eq_false_iff_not, ne_eq, Bool.not_eq_eq_eq_not, Bool.not_true, beq_iff_eq, bne_iff_ne]; exact Iff.rfl) | exact Iff.rfl) (fun ht2 => ?_) (fun ht2 => ?_)
      ·
        have hst := bytesLess_step (l := la) (m := z) (i := k - 1) (by omega) (by omega)
        rw [show k - 1 + 1 = k by omega] at hst
        refine c_skip ?_
        refine c_then ?_
        refine c_seq ?_
        refine c_block ?_
        refine c_seq (c_draw K.mixed (by kernel_rfl) h ?_)
        clear h a w; intro a hE
        refine qv hE (fun w hw => r_move ⟨hE, hw⟩ rfl) rfl ?_
        clear hE a; intro a hE
        refine qv hE (fun w hw => r_arP ⟨hE, hw⟩ rfl rfl K.u_A32_uint8 K.sz_uint8 (by omega) (by first | omega | (simp only [List.length_cons, List.length_nil]; omega) | (simp; omega))) rfl ?_
        clear hE a; intro a hE
        first
          | (refine qv hE (fun w hw => r_ar8 ⟨hE, hw⟩ rfl K.u_uint8 rfl 0 rfl (by first | omega | (simp only [List.length_cons, List.length_nil]; omega) | (simp; omega))) rfl ?_)
          | (refine qv hE (fun w hw => r_ar8 ⟨hE, hw⟩ rfl K.u_uint8 rfl 1 rfl (by first | omega | (simp only [List.length_cons, List.length_nil]; omega) | (simp; omega))) rfl ?_)
          | (refine qv hE (fun w hw => r_ar8 ⟨hE, hw⟩ rfl K.u_uint8 rfl 2 rfl (by first | omega | (simp only [List.length_cons, List.length_nil]; omega) | (simp; omega))) rfl ?_)
          | (refine qv hE (fun w hw => r_ar8 ⟨hE, hw⟩ rfl K.u_uint8 rfl 3 rfl (by first | omega | (simp only [List.length_cons, List.length_nil]; omega) | (simp; omega))) rfl ?_)
          | (refine qv hE (fun w hw => r_ar8 ⟨hE, hw⟩ rfl K.u_uint8 rfl 4 rfl (by first | omega | (simp only [List.length_cons, List.length_nil]; omega) | (simp; omega))) rfl ?_)
          | (refine qv hE (fun w hw => r_ar8 ⟨hE, hw⟩ rfl K.u_uint8 rfl 5 rfl (by first | omega | (simp only [List.length_cons, List.length_nil]; omega) | (simp; omega))) rfl ?_)
        clear hE a; intro a hE
        refine qv hE (fun w hw => r_move ⟨hE, hw⟩ rfl) rfl ?_
        clear hE a; intro a hE
        refine qv hE (fun w hw => r_arP ⟨hE, hw⟩ rfl rfl K.u_A32_uint8 K.sz_uint8 (by omega) (by first | omega | (simp only [List.length_cons, List.length_nil]; omega) | (simp; omega))) rfl ?_
        clear hE a; intro a hE
        first
          | (refine qv hE (fun w hw => r_ar8 ⟨hE, hw⟩ rfl K.u_uint8 rfl 0 rfl (by first | omega | (simp only [List.length_cons, List.length_nil]; omega) | (simp; omega))) rfl ?_)
          | (refine qv hE (fun w hw => r_ar8 ⟨hE, hw⟩ rfl K.u_uint8 rfl 1 rfl (by first | omega | (simp only [List.length_cons, List.length_nil]; omega) | (simp; omega))) rfl ?_)
          | (refine qv hE (fun w hw => r_ar8 ⟨hE, hw⟩ rfl K.u_uint8 rfl 2 rfl (by first | omega | (simp only [List.length_cons, List.length_nil]; omega) | (simp; omega))) rfl ?_)
          | (refine qv hE (fun w hw => r_ar8 ⟨hE, hw⟩ rfl K.u_uint8 rfl 3 rfl (by first | omega | (simp only [List.length_cons, List.length_nil]; omega) | (simp; omega))) rfl ?_)
          | (refine qv hE (fun w hw => r_ar8 ⟨hE, hw⟩ rfl K.u_uint8 rfl 4 rfl (by first | omega | (simp only [List.length_cons, List.length_nil]; omega) | (simp; omega))) rfl ?_)
          | (refine qv hE (fun w hw => r_ar8 ⟨hE, hw⟩ rfl K.u_uint8 rfl 5 rfl (by first | omega | (simp only [List.length_cons, List.length_nil]; omega) | (simp; omega))) rfl ?_)
        clear hE a; intro a hE
        refine qv hE (fun w hw => r_bin ⟨hE, hw⟩ rfl rfl (B.neq_u8)) rfl ?_
        clear hE a; intro a hE
        refine qnil hE ?_
        clear hE a; intro a w h
        refine c_then ?_
        first
          | refine c_condD h rfl (fun ht3 => ?_) (fun ht3 => ?_)
          | refine c_condP h rfl (by first | (simp only [Bool.and_eq_true, Bool.or_eq_true, Bool.not_eq_true', decide_eq_true_eq, decide_eq_false_iff_not, ne_eq, Bool.not_eq_eq_eq_not, Bool.not_true, beq_iff_eq, bne_iff_ne]; exact Iff.rfl) | exact Iff.rfl) (fun ht3 => ?_) (fun ht3 => ?_)
        ·
          as_aux_lemma =>
            refine c_draw K.mixed (by kernel_rfl) h ?_
            clear h a w; intro a hE
            refine qv hE (fun w hw => r_move ⟨hE, hw⟩ rfl) rfl ?_
            clear hE a; intro a hE
            refine qv hE (fun w hw => r_arP ⟨hE, hw⟩ rfl rfl K.u_A32_uint8 K.sz_uint8 (by omega) (by first | omega | (simp only [List.length_cons, List.length_nil]; omega) | (simp; omega))) rfl ?_
            clear hE a; intro a hE
            first
              | (refine qv hE (fun w hw => r_ar8 ⟨hE, hw⟩ rfl K.u_uint8 rfl 0 rfl (by first | omega | (simp only [List.length_cons, List.length_nil]; omega) | (simp; omega))) rfl ?_)
              | (refine qv hE (fun w hw => r_ar8 ⟨hE, hw⟩ rfl K.u_uint8 rfl 1 rfl (by first | omega | (simp only [List.length_cons, List.length_nil]; omega) | (simp; omega))) rfl ?_)
              | (refine qv hE (fun w hw => r_ar8 ⟨hE, hw⟩ rfl K.u_uint8 rfl 2 rfl (by first | omega | (simp only [List.length_cons, List.length_nil]; omega) | (simp; omega))) rfl ?_)
              | (refine qv hE (fun w hw => r_ar8 ⟨hE, hw⟩ rfl K.u_uint8 rfl 3 rfl (by first | omega | (simp only [List.length_cons, List.length_nil]; omega) | (simp; omega))) rfl ?_)
              | (refine qv hE (fun w hw => r_ar8 ⟨hE, hw⟩ rfl K.u_uint8 rfl 4 rfl (by first | omega | (simp only [List.length_cons, List.length_nil]; omega) | (simp; omega))) rfl ?_)
              | (refine qv hE (fun w hw => r_ar8 ⟨hE, hw⟩ rfl K.u_uint8 rfl 5 rfl (by first | omega | (simp only [List.length_cons, List.length_nil]; omega) | (simp; omega))) rfl ?_)
            clear hE a; intro a hE
            refine qv hE (fun w hw => r_move ⟨hE, hw⟩ rfl) rfl ?_
            clear hE a; intro a hE
            refine qv hE (fun w hw => r_arP ⟨hE, hw⟩ rfl rfl K.u_A32_uint8 K.sz_uint8 (by omega) (by first | omega | (simp only [List.length_cons, List.length_nil]; omega) | (simp; omega))) rfl ?_
            clear hE a; intro a hE
            first
              | (refine qv hE (fun w hw => r_ar8 ⟨hE, hw⟩ rfl K.u_uint8 rfl 0 rfl (by first | omega | (simp only [List.length_cons, List.length_nil]; omega) | (simp; omega))) rfl ?_)
              | (refine qv hE (fun w hw => r_ar8 ⟨hE, hw⟩ rfl K.u_uint8 rfl 1 rfl (by first | omega | (simp only [List.length_cons, List.length_nil]; omega) | (simp; omega))) rfl ?_)
              | (refine qv hE (fun w hw => r_ar8 ⟨hE, hw⟩ rfl K.u_uint8 rfl 2 rfl (by first | omega | (simp only [List.length_cons, List.length_nil]; omega) | (simp; omega))) rfl ?_)
              | (refine qv hE (fun w hw => r_ar8 ⟨hE, hw⟩ rfl K.u_uint8 rfl 3 rfl (by first | omega | (simp only [List.length_cons, List.length_nil]; omega) | (simp; omega))) rfl ?_)
              | (refine qv hE (fun w hw => r_ar8 ⟨hE, hw⟩ rfl K.u_uint8 rfl 4 rfl (by first | omega | (simp only [List.length_cons, List.length_nil]; omega) | (simp; omega))) rfl ?_)
              | (refine qv hE (fun w hw => r_ar8 ⟨hE, hw⟩ rfl K.u_uint8 rfl 5 rfl (by first | omega | (simp only [List.length_cons, List.length_nil]; omega) | (simp; omega))) rfl ?_)
            clear hE a; intro a hE
            refine qv hE (fun w hw => r_bin ⟨hE, hw⟩ rfl rfl (B.lss_u8)) rfl ?_
            clear hE a; intro a hE
            refine qv hE (fun w hw => r_assign ⟨hE, hw⟩ rfl) rfl ?_
            clear hE a; intro a hE
            refine qnil hE ?_
            clear hE a; intro a w h
            refine b_normal ?_
            refine c_then ?_
            refine c_region ?_
            refine wv h (r_move h rfl) rfl ?_
            clear h a w; intro a w h
            refine wv h (r_bin h rfl rfl (B.sub_i64 (by omega) (by omega))) rfl ?_
            clear h a w; intro a w h
            refine wv h (r_assign h rfl) rfl ?_
            clear h a w; intro a w h
            refine wnil ?_
            rw [show (k : Int) - 1 - 1 = ((k - 1 : Nat) : Int) - 1 by omega] at h
            rw [if_neg ht3] at hst
            exact ⟨k - 1, by rw [hst]; exact h.keep [4, 5, 9, 10], (by show k - 1 ≤ 32; omega), by show k - 1 < k; omega⟩
        ·
          refine c_skip ?_
          refine b_normal ?_
          refine c_then ?_
          refine c_region ?_
          refine wv h (r_move h rfl) rfl ?_
          clear h a w; intro a w h
          refine wv h (r_bin h rfl rfl (B.sub_i64 (by omega) (by omega))) rfl ?_
          clear h a w; intro a w h
          refine wv h (r_assign h rfl) rfl ?_
          clear h a w; intro a w h
          refine wnil ?_
          rw [show (k : Int) - 1 - 1 = ((k - 1 : Nat) : Int) - 1 by omega] at h
          rw [if_pos (by simpa using ht3)] at hst
          exact ⟨k - 1, by rw [hst]; exact h.keep [4, 5, 9, 10], (by show k - 1 ≤ 32; omega), by show k - 1 < k; omega⟩
      ·
        obtain rfl : k = 0 := by omega
        rw [List.drop_zero, List.drop_zero] at h
        refine c_exit ?_
        refine e_then ?_
        refine e_then ?_
        refine e_here ?_
        refine c_then ?_
        refine c_seq (c_draw K.mixed (by kernel_rfl) h ?_)
        clear h a w; intro a hE
        refine q_c hE rfl K.go_law02_awake (fun w hw => law02_awake s _ _ (by first | assumption | exact CellsAt.cons (by assumption) _ | exact CellsAt.cons (CellsAt.cons (by assumption) _) _ | exact CellsAt.cons (CellsAt.cons (CellsAt.cons (by assumption) _) _) _ | exact CellsAt.cons (CellsAt.cons (CellsAt.cons (CellsAt.cons (by assumption) _) _) _) _) (by first | assumption | exact CellsAt.cons (by assumption) _ | exact CellsAt.cons (CellsAt.cons (by assumption) _) _ | exact CellsAt.cons (CellsAt.cons (CellsAt.cons (by assumption) _) _) _ | exact CellsAt.cons (CellsAt.cons (CellsAt.cons (CellsAt.cons (by assumption) _) _) _) _) hw) rfl ?_
        clear hE a; intro a hE
        refine qv hE (fun w hw => r_move ⟨hE, hw⟩ rfl) rfl ?_
        clear hE a; intro a hE
        refine qvG hE (by first | exact .t rfl | exact .f rfl | exact .gt rfl | exact .gf rfl) (fun hg w hw => by (try simp only [gval_on hg, gval_and hg] at hE); (have hg2 := hg; (try simp only [Bool.and_eq_true, Bool.or_eq_true, Bool.not_eq_true', decide_eq_true_eq, decide_eq_false_iff_not] at hg2)); first | exact r_loadA8 ⟨hE, hw⟩ rfl K.u_A32_uint8 rfl K.sz_A32_uint8 0 rfl (by first | rfl | assumption | (simp; done) | (simp; omega) | omega) | exact r_loadA8 ⟨hE, hw⟩ rfl K.u_A32_uint8 rfl K.sz_A32_uint8 1 rfl (by first | rfl | assumption | (simp; done) | (simp; omega) | omega) | exact r_loadA8 ⟨hE, hw⟩ rfl K.u_A32_uint8 rfl K.sz_A32_uint8 2 rfl (by first | rfl | assumption | (simp; done) | (simp; omega) | omega) | exact r_loadA8 ⟨hE, hw⟩ rfl K.u_A32_uint8 rfl K.sz_A32_uint8 3 rfl (by first | rfl | assumption | (simp; done) | (simp; omega) | omega) | exact r_loadA8 ⟨hE, hw⟩ rfl K.u_A32_uint8 rfl K.sz_A32_uint8 4 rfl (by first | rfl | assumption | (simp; done) | (simp; omega) | omega) | exact r_loadA8 ⟨hE, hw⟩ rfl K.u_A32_uint8 rfl K.sz_A32_uint8 5 rfl (by first | rfl | assumption | (simp; done) | (simp; omega) | omega) | exact r_loadCA ⟨hE, hw⟩ rfl K.u_A32_uint8 rfl K.sz_A32_uint8 (by assumption) (by first | rfl | assumption | (simp; done) | (simp; omega) | omega)) rfl ?_
        clear hE a; intro a hE
        refine qvG hE (by first | exact .t rfl | exact .f rfl | exact .gt rfl | exact .gf rfl) (fun hg w hw => by (try simp only [gval_on hg, gval_and hg] at hE); (have hg2 := hg; (try simp only [Bool.and_eq_true, Bool.or_eq_true, Bool.not_eq_true', decide_eq_true_eq, decide_eq_false_iff_not] at hg2)); first | exact r_loadA8 ⟨hE, hw⟩ rfl K.u_A32_uint8 rfl K.sz_A32_uint8 0 rfl (by first | rfl | assumption | (simp; done) | (simp; omega) | omega) | exact r_loadA8 ⟨hE, hw⟩ rfl K.u_A32_uint8 rfl K.sz_A32_uint8 1 rfl (by first | rfl | assumption | (simp; done) | (simp; omega) | omega) | exact r_loadA8 ⟨hE, hw⟩ rfl K.u_A32_uint8 rfl K.sz_A32_uint8 2 rfl (by first | rfl | assumption | (simp; done) | (simp; omega) | omega) | exact r_loadA8 ⟨hE, hw⟩ rfl K.u_A32_uint8 rfl K.sz_A32_uint8 3 rfl (by first | rfl | assumption | (simp; done) | (simp; omega) | omega) | exact r_loadA8 ⟨hE, hw⟩ rfl K.u_A32_uint8 rfl K.sz_A32_uint8 4 rfl (by first | rfl | assumption | (simp; done) | (simp; omega) | omega) | exact r_loadA8 ⟨hE, hw⟩ rfl K.u_A32_uint8 rfl K.sz_A32_uint8 5 rfl (by first | rfl | assumption | (simp; done) | (simp; omega) | omega) | exact r_loadCA ⟨hE, hw⟩ rfl K.u_A32_uint8 rfl K.sz_A32_uint8 (by assumption) (by first | rfl | assumption | (simp; done) | (simp; omega) | omega)) rfl ?_
        clear hE a; intro a hE
        refine q_cG hE (by first | exact .t rfl | exact .f rfl | exact .gt rfl | exact .gf rfl) K.go_stamp_Less (fun hg => by (try simp only [gval_on hg, gval_and hg]); (have hg2 := hg; (try simp only [Bool.and_eq_true, Bool.or_eq_true, Bool.not_eq_true', decide_eq_true_eq, decide_eq_false_iff_not] at hg2)); exact ⟨_, rfl, fun w hw => stamp_Less s _ _ _ (by first | rfl | assumption | (simp; done) | (simp; omega) | omega) (by first | rfl | assumption | (simp; done) | (simp; omega) | omega) _ hw⟩) rfl ?_
        clear hE a; intro a hE
        refine qvG hE (by first | exact .t rfl | exact .f rfl | exact .gt rfl | exact .gf rfl) (fun hg w hw => by (try simp only [gval_on hg, gval_and hg] at hE); (have hg2 := hg; (try simp only [Bool.and_eq_true, Bool.or_eq_true, Bool.not_eq_true', decide_eq_true_eq, decide_eq_false_iff_not] at hg2)); first | exact r_move ⟨hE, hw⟩ rfl) rfl ?_
        clear hE a; intro a hE
        refine qvG hE (by first | exact .t rfl | exact .f rfl | exact .gt rfl | exact .gf rfl) (fun hg w hw => by (try simp only [gval_on hg, gval_and hg] at hE); (have hg2 := hg; (try simp only [Bool.and_eq_true, Bool.or_eq_true, Bool.not_eq_true', decide_eq_true_eq, decide_eq_false_iff_not] at hg2)); first | exact r_booleq ⟨hE, hw⟩ K.u_bool rfl rfl) rfl ?_
        clear hE a; intro a hE
        first
          | (refine qv hE (fun w hw => r_pickA ⟨hE, hw⟩ rfl rfl rfl) rfl ?_)
          | (refine qv hE (fun w hw => r_pickO ⟨hE, hw⟩ rfl rfl rfl) rfl ?_)
          | (refine qv hE (fun w hw => r_pick_true ⟨hE, hw⟩ rfl rfl) rfl ?_)
          | (refine qv hE (fun w hw => r_pick_false ⟨hE, hw⟩ rfl rfl) rfl ?_)
          | (refine qv hE (fun w hw => r_pick ⟨hE, hw⟩ rfl rfl rfl) rfl ?_)
        clear hE a; intro a hE
        refine qv hE (fun w hw => r_move ⟨hE, hw⟩ rfl) rfl ?_
        clear hE a; intro a hE
        refine qvG hE (by first | exact .t rfl | exact .f rfl | exact .gt rfl | exact .gf rfl) (fun hg w hw => by (try simp only [gval_on hg, gval_and hg] at hE); (have hg2 := hg; (try simp only [Bool.and_eq_true, Bool.or_eq_true, Bool.not_eq_true', decide_eq_true_eq, decide_eq_false_iff_not] at hg2)); first | exact r_loadA8 ⟨hE, hw⟩ rfl K.u_A32_uint8 rfl K.sz_A32_uint8 0 rfl (by first | rfl | assumption | (simp; done) | (simp; omega) | omega) | exact r_loadA8 ⟨hE, hw⟩ rfl K.u_A32_uint8 rfl K.sz_A32_uint8 1 rfl (by first | rfl | assumption | (simp; done) | (simp; omega) | omega) | exact r_loadA8 ⟨hE, hw⟩ rfl K.u_A32_uint8 rfl K.sz_A32_uint8 2 rfl (by first | rfl | assumption | (simp; done) | (simp; omega) | omega) | exact r_loadA8 ⟨hE, hw⟩ rfl K.u_A32_uint8 rfl K.sz_A32_uint8 3 rfl (by first | rfl | assumption | (simp; done) | (simp; omega) | omega) | exact r_loadA8 ⟨hE, hw⟩ rfl K.u_A32_uint8 rfl K.sz_A32_uint8 4 rfl (by first | rfl | assumption | (simp; done) | (simp; omega) | omega) | exact r_loadA8 ⟨hE, hw⟩ rfl K.u_A32_uint8 rfl K.sz_A32_uint8 5 rfl (by first | rfl | assumption | (simp; done) | (simp; omega) | omega) | exact r_loadCA ⟨hE, hw⟩ rfl K.u_A32_uint8 rfl K.sz_A32_uint8 (by assumption) (by first | rfl | assumption | (simp; done) | (simp; omega) | omega)) rfl ?_
        clear hE a; intro a hE
        refine qvG hE (by first | exact .t rfl | exact .f rfl | exact .gt rfl | exact .gf rfl) (fun hg w hw => by (try simp only [gval_on hg, gval_and hg] at hE); (have hg2 := hg; (try simp only [Bool.and_eq_true, Bool.or_eq_true, Bool.not_eq_true', decide_eq_true_eq, decide_eq_false_iff_not] at hg2)); first | exact r_loadA8 ⟨hE, hw⟩ rfl K.u_A32_uint8 rfl K.sz_A32_uint8 0 rfl (by first | rfl | assumption | (simp; done) | (simp; omega) | omega) | exact r_loadA8 ⟨hE, hw⟩ rfl K.u_A32_uint8 rfl K.sz_A32_uint8 1 rfl (by first | rfl | assumption | (simp; done) | (simp; omega) | omega) | exact r_loadA8 ⟨hE, hw⟩ rfl K.u_A32_uint8 rfl K.sz_A32_uint8 2 rfl (by first | rfl | assumption | (simp; done) | (simp; omega) | omega) | exact r_loadA8 ⟨hE, hw⟩ rfl K.u_A32_uint8 rfl K.sz_A32_uint8 3 rfl (by first | rfl | assumption | (simp; done) | (simp; omega) | omega) | exact r_loadA8 ⟨hE, hw⟩ rfl K.u_A32_uint8 rfl K.sz_A32_uint8 4 rfl (by first | rfl | assumption | (simp; done) | (simp; omega) | omega) | exact r_loadA8 ⟨hE, hw⟩ rfl K.u_A32_uint8 rfl K.sz_A32_uint8 5 rfl (by first | rfl | assumption | (simp; done) | (simp; omega) | omega) | exact r_loadCA ⟨hE, hw⟩ rfl K.u_A32_uint8 rfl K.sz_A32_uint8 (by assumption) (by first | rfl | assumption | (simp; done) | (simp; omega) | omega)) rfl ?_
        clear hE a; intro a hE
        refine q_cG hE (by first | exact .t rfl | exact .f rfl | exact .gt rfl | exact .gf rfl) K.go_stamp_Less (fun hg => by (try simp only [gval_on hg, gval_and hg]); (have hg2 := hg; (try simp only [Bool.and_eq_true, Bool.or_eq_true, Bool.not_eq_true', decide_eq_true_eq, decide_eq_false_iff_not] at hg2)); exact ⟨_, rfl, fun w hw => stamp_Less s _ _ _ (by first | rfl | assumption | (simp; done) | (simp; omega) | omega) (by first | rfl | assumption | (simp; done) | (simp; omega) | omega) _ hw⟩) rfl ?_
        clear hE a; intro a hE
        refine qvG hE (by first | exact .t rfl | exact .f rfl | exact .gt rfl | exact .gf rfl) (fun hg w hw => by (try simp only [gval_on hg, gval_and hg] at hE); (have hg2 := hg; (try simp only [Bool.and_eq_true, Bool.or_eq_true, Bool.not_eq_true', decide_eq_true_eq, decide_eq_false_iff_not] at hg2)); first | exact r_not ⟨hE, hw⟩ rfl) rfl ?_
        clear hE a; intro a hE
        first
          | (refine qv hE (fun w hw => r_pickA ⟨hE, hw⟩ rfl rfl rfl) rfl ?_)
          | (refine qv hE (fun w hw => r_pickO ⟨hE, hw⟩ rfl rfl rfl) rfl ?_)
          | (refine qv hE (fun w hw => r_pick_true ⟨hE, hw⟩ rfl rfl) rfl ?_)
          | (refine qv hE (fun w hw => r_pick_false ⟨hE, hw⟩ rfl rfl) rfl ?_)
          | (refine qv hE (fun w hw => r_pick ⟨hE, hw⟩ rfl rfl rfl) rfl ?_)
        clear hE a; intro a hE
        refine qv hE (fun w hw => r_move ⟨hE, hw⟩ rfl) rfl ?_
        clear hE a; intro a hE
        refine qvG hE (by first | exact .t rfl | exact .f rfl | exact .gt rfl | exact .gf rfl) (fun hg w hw => by (try simp only [gval_on hg, gval_and hg] at hE); (have hg2 := hg; (try simp only [Bool.and_eq_true, Bool.or_eq_true, Bool.not_eq_true', decide_eq_true_eq, decide_eq_false_iff_not] at hg2)); first | exact r_loadA8 ⟨hE, hw⟩ rfl K.u_A32_uint8 rfl K.sz_A32_uint8 0 rfl (by first | rfl | assumption | (simp; done) | (simp; omega) | omega) | exact r_loadA8 ⟨hE, hw⟩ rfl K.u_A32_uint8 rfl K.sz_A32_uint8 1 rfl (by first | rfl | assumption | (simp; done) | (simp; omega) | omega) | exact r_loadA8 ⟨hE, hw⟩ rfl K.u_A32_uint8 rfl K.sz_A32_uint8 2 rfl (by first | rfl | assumption | (simp; done) | (simp; omega) | omega) | exact r_loadA8 ⟨hE, hw⟩ rfl K.u_A32_uint8 rfl K.sz_A32_uint8 3 rfl (by first | rfl | assumption | (simp; done) | (simp; omega) | omega) | exact r_loadA8 ⟨hE, hw⟩ rfl K.u_A32_uint8 rfl K.sz_A32_uint8 4 rfl (by first | rfl | assumption | (simp; done) | (simp; omega) | omega) | exact r_loadA8 ⟨hE, hw⟩ rfl K.u_A32_uint8 rfl K.sz_A32_uint8 5 rfl (by first | rfl | assumption | (simp; done) | (simp; omega) | omega) | exact r_loadCA ⟨hE, hw⟩ rfl K.u_A32_uint8 rfl K.sz_A32_uint8 (by assumption) (by first | rfl | assumption | (simp; done) | (simp; omega) | omega)) rfl ?_
        clear hE a; intro a hE
        refine qvG hE (by first | exact .t rfl | exact .f rfl | exact .gt rfl | exact .gf rfl) (fun hg w hw => by (try simp only [gval_on hg, gval_and hg] at hE); (have hg2 := hg; (try simp only [Bool.and_eq_true, Bool.or_eq_true, Bool.not_eq_true', decide_eq_true_eq, decide_eq_false_iff_not] at hg2)); first | exact r_loadA8 ⟨hE, hw⟩ rfl K.u_A32_uint8 rfl K.sz_A32_uint8 0 rfl (by first | rfl | assumption | (simp; done) | (simp; omega) | omega) | exact r_loadA8 ⟨hE, hw⟩ rfl K.u_A32_uint8 rfl K.sz_A32_uint8 1 rfl (by first | rfl | assumption | (simp; done) | (simp; omega) | omega) | exact r_loadA8 ⟨hE, hw⟩ rfl K.u_A32_uint8 rfl K.sz_A32_uint8 2 rfl (by first | rfl | assumption | (simp; done) | (simp; omega) | omega) | exact r_loadA8 ⟨hE, hw⟩ rfl K.u_A32_uint8 rfl K.sz_A32_uint8 3 rfl (by first | rfl | assumption | (simp; done) | (simp; omega) | omega) | exact r_loadA8 ⟨hE, hw⟩ rfl K.u_A32_uint8 rfl K.sz_A32_uint8 4 rfl (by first | rfl | assumption | (simp; done) | (simp; omega) | omega) | exact r_loadA8 ⟨hE, hw⟩ rfl K.u_A32_uint8 rfl K.sz_A32_uint8 5 rfl (by first | rfl | assumption | (simp; done) | (simp; omega) | omega) | exact r_loadCA ⟨hE, hw⟩ rfl K.u_A32_uint8 rfl K.sz_A32_uint8 (by assumption) (by first | rfl | assumption | (simp; done) | (simp; omega) | omega)) rfl ?_
        clear hE a; intro a hE
        refine qvG hE (by first | exact .t rfl | exact .f rfl | exact .gt rfl | exact .gf rfl) (fun hg w hw => by (try simp only [gval_on hg, gval_and hg] at hE); (have hg2 := hg; (try simp only [Bool.and_eq_true, Bool.or_eq_true, Bool.not_eq_true', decide_eq_true_eq, decide_eq_false_iff_not] at hg2)); first | exact r_arreq ⟨hE, hw⟩ rfl rfl K.u_A32_uint8 K.u_uint8 K.sz_uint8 (by kernel_rfl) (by first | rfl | assumption | (simp; done) | (simp; omega) | omega) (by first | rfl | assumption | (simp; done) | (simp; omega) | omega)) rfl ?_
        clear hE a; intro a hE
        refine qvG hE (by first | exact .t rfl | exact .f rfl | exact .gt rfl | exact .gf rfl) (fun hg w hw => by (try simp only [gval_on hg, gval_and hg] at hE); (have hg2 := hg; (try simp only [Bool.and_eq_true, Bool.or_eq_true, Bool.not_eq_true', decide_eq_true_eq, decide_eq_false_iff_not] at hg2)); first | exact r_move ⟨hE, hw⟩ rfl) rfl ?_
        clear hE a; intro a hE
        refine qvG hE (by first | exact .t rfl | exact .f rfl | exact .gt rfl | exact .gf rfl) (fun hg w hw => by (try simp only [gval_on hg, gval_and hg] at hE); (have hg2 := hg; (try simp only [Bool.and_eq_true, Bool.or_eq_true, Bool.not_eq_true', decide_eq_true_eq, decide_eq_false_iff_not] at hg2)); first | exact r_loadA8 ⟨hE, hw⟩ rfl K.u_A32_uint8 rfl K.sz_A32_uint8 0 rfl (by first | rfl | assumption | (simp; done) | (simp; omega) | omega) | exact r_loadA8 ⟨hE, hw⟩ rfl K.u_A32_uint8 rfl K.sz_A32_uint8 1 rfl (by first | rfl | assumption | (simp; done) | (simp; omega) | omega) | exact r_loadA8 ⟨hE, hw⟩ rfl K.u_A32_uint8 rfl K.sz_A32_uint8 2 rfl (by first | rfl | assumption | (simp; done) | (simp; omega) | omega) | exact r_loadA8 ⟨hE, hw⟩ rfl K.u_A32_uint8 rfl K.sz_A32_uint8 3 rfl (by first | rfl | assumption | (simp; done) | (simp; omega) | omega) | exact r_loadA8 ⟨hE, hw⟩ rfl K.u_A32_uint8 rfl K.sz_A32_uint8 4 rfl (by first | rfl | assumption | (simp; done) | (simp; omega) | omega) | exact r_loadA8 ⟨hE, hw⟩ rfl K.u_A32_uint8 rfl K.sz_A32_uint8 5 rfl (by first | rfl | assumption | (simp; done) | (simp; omega) | omega) | exact r_loadCA ⟨hE, hw⟩ rfl K.u_A32_uint8 rfl K.sz_A32_uint8 (by assumption) (by first | rfl | assumption | (simp; done) | (simp; omega) | omega)) rfl ?_
        clear hE a; intro a hE
        refine qvG hE (by first | exact .t rfl | exact .f rfl | exact .gt rfl | exact .gf rfl) (fun hg w hw => by (try simp only [gval_on hg, gval_and hg] at hE); (have hg2 := hg; (try simp only [Bool.and_eq_true, Bool.or_eq_true, Bool.not_eq_true', decide_eq_true_eq, decide_eq_false_iff_not] at hg2)); first | exact r_loadA8 ⟨hE, hw⟩ rfl K.u_A32_uint8 rfl K.sz_A32_uint8 0 rfl (by first | rfl | assumption | (simp; done) | (simp; omega) | omega) | exact r_loadA8 ⟨hE, hw⟩ rfl K.u_A32_uint8 rfl K.sz_A32_uint8 1 rfl (by first | rfl | assumption | (simp; done) | (simp; omega) | omega) | exact r_loadA8 ⟨hE, hw⟩ rfl K.u_A32_uint8 rfl K.sz_A32_uint8 2 rfl (by first | rfl | assumption | (simp; done) | (simp; omega) | omega) | exact r_loadA8 ⟨hE, hw⟩ rfl K.u_A32_uint8 rfl K.sz_A32_uint8 3 rfl (by first | rfl | assumption | (simp; done) | (simp; omega) | omega) | exact r_loadA8 ⟨hE, hw⟩ rfl K.u_A32_uint8 rfl K.sz_A32_uint8 4 rfl (by first | rfl | assumption | (simp; done) | (simp; omega) | omega) | exact r_loadA8 ⟨hE, hw⟩ rfl K.u_A32_uint8 rfl K.sz_A32_uint8 5 rfl (by first | rfl | assumption | (simp; done) | (simp; omega) | omega) | exact r_loadCA ⟨hE, hw⟩ rfl K.u_A32_uint8 rfl K.sz_A32_uint8 (by assumption) (by first | rfl | assumption | (simp; done) | (simp; omega) | omega)) rfl ?_
        clear hE a; intro a hE
        refine q_cG hE (by first | exact .t rfl | exact .f rfl | exact .gt rfl | exact .gf rfl) K.go_stamp_Less (fun hg => by (try simp only [gval_on hg, gval_and hg]); (have hg2 := hg; (try simp only [Bool.and_eq_true, Bool.or_eq_true, Bool.not_eq_true', decide_eq_true_eq, decide_eq_false_iff_not] at hg2)); exact ⟨_, rfl, fun w hw => stamp_Less s _ _ _ (by first | rfl | assumption | (simp; done) | (simp; omega) | omega) (by first | rfl | assumption | (simp; done) | (simp; omega) | omega) _ hw⟩) rfl ?_
        clear hE a; intro a hE
        refine qvG hE (by first | exact .t rfl | exact .f rfl | exact .gt rfl | exact .gf rfl) (fun hg w hw => by (try simp only [gval_on hg, gval_and hg] at hE); (have hg2 := hg; (try simp only [Bool.and_eq_true, Bool.or_eq_true, Bool.not_eq_true', decide_eq_true_eq, decide_eq_false_iff_not] at hg2)); first | exact r_loadA8 ⟨hE, hw⟩ rfl K.u_A32_uint8 rfl K.sz_A32_uint8 0 rfl (by first | rfl | assumption | (simp; done) | (simp; omega) | omega) | exact r_loadA8 ⟨hE, hw⟩ rfl K.u_A32_uint8 rfl K.sz_A32_uint8 1 rfl (by first | rfl | assumption | (simp; done) | (simp; omega) | omega) | exact r_loadA8 ⟨hE, hw⟩ rfl K.u_A32_uint8 rfl K.sz_A32_uint8 2 rfl (by first | rfl | assumption | (simp; done) | (simp; omega) | omega) | exact r_loadA8 ⟨hE, hw⟩ rfl K.u_A32_uint8 rfl K.sz_A32_uint8 3 rfl (by first | rfl | assumption | (simp; done) | (simp; omega) | omega) | exact r_loadA8 ⟨hE, hw⟩ rfl K.u_A32_uint8 rfl K.sz_A32_uint8 4 rfl (by first | rfl | assumption | (simp; done) | (simp; omega) | omega) | exact r_loadA8 ⟨hE, hw⟩ rfl K.u_A32_uint8 rfl K.sz_A32_uint8 5 rfl (by first | rfl | assumption | (simp; done) | (simp; omega) | omega) | exact r_loadCA ⟨hE, hw⟩ rfl K.u_A32_uint8 rfl K.sz_A32_uint8 (by assumption) (by first | rfl | assumption | (simp; done) | (simp; omega) | omega)) rfl ?_
        clear hE a; intro a hE
        refine qvG hE (by first | exact .t rfl | exact .f rfl | exact .gt rfl | exact .gf rfl) (fun hg w hw => by (try simp only [gval_on hg, gval_and hg] at hE); (have hg2 := hg; (try simp only [Bool.and_eq_true, Bool.or_eq_true, Bool.not_eq_true', decide_eq_true_eq, decide_eq_false_iff_not] at hg2)); first | exact r_loadA8 ⟨hE, hw⟩ rfl K.u_A32_uint8 rfl K.sz_A32_uint8 0 rfl (by first | rfl | assumption | (simp; done) | (simp; omega) | omega) | exact r_loadA8 ⟨hE, hw⟩ rfl K.u_A32_uint8 rfl K.sz_A32_uint8 1 rfl (by first | rfl | assumption | (simp; done) | (simp; omega) | omega) | exact r_loadA8 ⟨hE, hw⟩ rfl K.u_A32_uint8 rfl K.sz_A32_uint8 2 rfl (by first | rfl | assumption | (simp; done) | (simp; omega) | omega) | exact r_loadA8 ⟨hE, hw⟩ rfl K.u_A32_uint8 rfl K.sz_A32_uint8 3 rfl (by first | rfl | assumption | (simp; done) | (simp; omega) | omega) | exact r_loadA8 ⟨hE, hw⟩ rfl K.u_A32_uint8 rfl K.sz_A32_uint8 4 rfl (by first | rfl | assumption | (simp; done) | (simp; omega) | omega) | exact r_loadA8 ⟨hE, hw⟩ rfl K.u_A32_uint8 rfl K.sz_A32_uint8 5 rfl (by first | rfl | assumption | (simp; done) | (simp; omega) | omega) | exact r_loadCA ⟨hE, hw⟩ rfl K.u_A32_uint8 rfl K.sz_A32_uint8 (by assumption) (by first | rfl | assumption | (simp; done) | (simp; omega) | omega)) rfl ?_
        clear hE a; intro a hE
        refine q_cG hE (by first | exact .t rfl | exact .f rfl | exact .gt rfl | exact .gf rfl) K.go_stamp_Less (fun hg => by (try simp only [gval_on hg, gval_and hg]); (have hg2 := hg; (try simp only [Bool.and_eq_true, Bool.or_eq_true, Bool.not_eq_true', decide_eq_true_eq, decide_eq_false_iff_not] at hg2)); exact ⟨_, rfl, fun w hw => stamp_Less s _ _ _ (by first | rfl | assumption | (simp; done) | (simp; omega) | omega) (by first | rfl | assumption | (simp; done) | (simp; omega) | omega) _ hw⟩) rfl ?_
        clear hE a; intro a hE
        refine qvG hE (by first | exact .t rfl | exact .f rfl | exact .gt rfl | exact .gf rfl) (fun hg w hw => by (try simp only [gval_on hg, gval_and hg] at hE); (have hg2 := hg; (try simp only [Bool.and_eq_true, Bool.or_eq_true, Bool.not_eq_true', decide_eq_true_eq, decide_eq_false_iff_not] at hg2)); first | exact r_boolne ⟨hE, hw⟩ K.u_bool rfl rfl) rfl ?_
        clear hE a; intro a hE
        refine qvG hE (by first | exact .t rfl | exact .f rfl | exact .gt rfl | exact .gf rfl) (fun hg w hw => by (try simp only [gval_on hg, gval_and hg] at hE); (have hg2 := hg; (try simp only [Bool.and_eq_true, Bool.or_eq_true, Bool.not_eq_true', decide_eq_true_eq, decide_eq_false_iff_not] at hg2)); first | exact r_pickA ⟨hE, hw⟩ rfl rfl rfl | exact r_pickO ⟨hE, hw⟩ rfl rfl rfl | exact r_pick_true ⟨hE, hw⟩ rfl rfl | exact r_pick_false ⟨hE, hw⟩ rfl rfl | exact r_pick ⟨hE, hw⟩ rfl rfl rfl) rfl ?_
        clear hE a; intro a hE
        first
          | (refine qv hE (fun w hw => r_pickA ⟨hE, hw⟩ rfl rfl rfl) rfl ?_)
          | (refine qv hE (fun w hw => r_pickO ⟨hE, hw⟩ rfl rfl rfl) rfl ?_)
          | (refine qv hE (fun w hw => r_pick_true ⟨hE, hw⟩ rfl rfl) rfl ?_)
          | (refine qv hE (fun w hw => r_pick_false ⟨hE, hw⟩ rfl rfl) rfl ?_)
          | (refine qv hE (fun w hw => r_pick ⟨hE, hw⟩ rfl rfl rfl) rfl ?_)
        clear hE a; intro a hE
        refine qv hE (fun w hw => r_assign ⟨hE, hw⟩ rfl) rfl ?_
        clear hE a; intro a hE
        refine qnil hE ?_
        clear hE a; intro a w h
        refine c_then ?_
        refine c_ret ?_
        have e2 : (decide (la = z) || (Op.bytesLess la z != Op.bytesLess z la)) = true := by
          by_cases q : la = z
          · simp [q]
          · simp [q, bytesLess_ne la z (by omega) q]
        exact ret1 h rfl rfl ⟨(), by rw [e2]; simp [bytesLess_self], h.2.drop 2, trivial⟩

theorem stampRows (s w : World) (la lb lc : List UInt8) (near : Bool) (hla : la.length = 32) (hlb : lb.length = 32) (hlc : lc.length = 32) (F : List HItem) (hT : HasParts F) (hF : HasFirst F) (hs : Sat s w F) :
    Calls P n_law02_StampRows #[.agg (arr8 la), .agg (arr8 lb), .agg (arr8 lc), .bool near] w (Ret s (fun _ : Unit => .bool true) (fun _ => F) (fun _ => True)) := by
  refine enter K.fn_law02_StampRows rfl K.nt_law02_StampRows rfl hs ?_
  clear hs w; intro a w h
  refine c_seq (c_region ?_)
  refine wl rfl (op_box h rfl rfl ?_)
  clear h a w; intro b4 a w h
  try simp only [Value.cells] at h
  refine wl rfl (op_box h rfl rfl ?_)
  clear h a w; intro b5 a w h
  try simp only [Value.cells] at h
  refine wl rfl (op_box h rfl rfl ?_)
  clear h a w; intro b6 a w h
  try simp only [Value.cells] at h
  refine wv h (r_assign h rfl) rfl ?_
  clear h a w; intro a w h
  refine wnil (c_then ?_)
  refine c_meet h (X := List UInt8 × List UInt8) (fun _ => [(4, .pointer (some ⟨b4, 0, none⟩)), (5, .pointer (some ⟨b5, 0, none⟩)), (6, .pointer (some ⟨b6, 0, none⟩))])
    (fun z => Blk b6 (.cells (arr8 z.2) t_A32_uint8) :: Blk b5 (.cells (arr8 z.1) t_A32_uint8) :: Blk b4 (.cells (arr8 la) t_A32_uint8) :: F) (fun z => z.1.length = 32 ∧ z.2.length = 32) ?_ ?_
  ·
    refine c_seq (c_region ?_)
    refine wv h (r_move h rfl) rfl ?_
    clear h a w; intro a w h
    refine wnil (c_then ?_)
    first
      | refine c_condD h rfl (fun ht1 => ?_) (fun ht1 => ?_)
      | refine c_condP h rfl (by first | (simp only [Bool.and_eq_true, Bool.or_eq_true, Bool.not_eq_true', decide_eq_true_eq, decide_eq_false_iff_not, ne_eq, Bool.not_eq_eq_eq_not, Bool.not_true, beq_iff_eq, bne_iff_ne]; exact Iff.rfl) | exact Iff.rfl) (fun ht1 => ?_) (fun ht1 => ?_)
    ·
      as_aux_lemma =>
        refine c_seq (c_region ?_)
        first
          | (refine wv h (r_loadA8 h rfl K.u_A32_uint8 rfl K.sz_A32_uint8 0 rfl (by first | rfl | assumption | (simp; done) | (simp; omega) | omega)) rfl ?_)
          | (refine wv h (r_loadA8 h rfl K.u_A32_uint8 rfl K.sz_A32_uint8 1 rfl (by first | rfl | assumption | (simp; done) | (simp; omega) | omega)) rfl ?_)
          | (refine wv h (r_loadA8 h rfl K.u_A32_uint8 rfl K.sz_A32_uint8 2 rfl (by first | rfl | assumption | (simp; done) | (simp; omega) | omega)) rfl ?_)
          | (refine wv h (r_loadA8 h rfl K.u_A32_uint8 rfl K.sz_A32_uint8 3 rfl (by first | rfl | assumption | (simp; done) | (simp; omega) | omega)) rfl ?_)
          | (refine wv h (r_loadA8 h rfl K.u_A32_uint8 rfl K.sz_A32_uint8 4 rfl (by first | rfl | assumption | (simp; done) | (simp; omega) | omega)) rfl ?_)
          | (refine wv h (r_loadA8 h rfl K.u_A32_uint8 rfl K.sz_A32_uint8 5 rfl (by first | rfl | assumption | (simp; done) | (simp; omega) | omega)) rfl ?_)
          | (refine wv h (r_loadCA h rfl K.u_A32_uint8 rfl K.sz_A32_uint8 (by assumption) (by first | rfl | assumption | (simp; done) | (simp; omega) | omega)) rfl ?_)
        clear h a w; intro a w h
        first
          | (refine wl rfl (op_storeA8 h rfl rfl K.sz_A32_uint8 (by first | rfl | assumption | (simp; done) | (simp; omega) | omega) 0 rfl (by first | rfl | (simp [arr8]; done) | (simp [arr8]; omega) | (simp [arr8]; assumption)) ?_))
          | (refine wl rfl (op_storeA8 h rfl rfl K.sz_A32_uint8 (by first | rfl | assumption | (simp; done) | (simp; omega) | omega) 1 rfl (by first | rfl | (simp [arr8]; done) | (simp [arr8]; omega) | (simp [arr8]; assumption)) ?_))
          | (refine wl rfl (op_storeA8 h rfl rfl K.sz_A32_uint8 (by first | rfl | assumption | (simp; done) | (simp; omega) | omega) 2 rfl (by first | rfl | (simp [arr8]; done) | (simp [arr8]; omega) | (simp [arr8]; assumption)) ?_))
          | (refine wl rfl (op_storeA8 h rfl rfl K.sz_A32_uint8 (by first | rfl | assumption | (simp; done) | (simp; omega) | omega) 3 rfl (by first | rfl | (simp [arr8]; done) | (simp [arr8]; omega) | (simp [arr8]; assumption)) ?_))
          | (refine wl rfl (op_storeA8 h rfl rfl K.sz_A32_uint8 (by first | rfl | assumption | (simp; done) | (simp; omega) | omega) 4 rfl (by first | rfl | (simp [arr8]; done) | (simp [arr8]; omega) | (simp [arr8]; assumption)) ?_))
          | (refine wl rfl (op_storeA8 h rfl rfl K.sz_A32_uint8 (by first | rfl | assumption | (simp; done) | (simp; omega) | omega) 5 rfl (by first | rfl | (simp [arr8]; done) | (simp [arr8]; omega) | (simp [arr8]; assumption)) ?_))
        clear h a w; intro a w h
        (try simp only [List.set_cons_zero, List.set_cons_succ] at h)
        refine wnil (c_then ?_)
        refine c_seq (c_region ?_)
        refine wv h (r_arP h rfl rfl K.u_A32_uint8 K.sz_uint8 (by omega) (by first | omega | (simp only [List.length_cons, List.length_nil]; omega) | (simp; omega))) rfl ?_
        clear h a w; intro a w h
        first
          | (refine wv h (r_ar8 h rfl K.u_uint8 rfl 0 rfl (by first | omega | (simp only [List.length_cons, List.length_nil]; omega) | (simp; omega))) rfl ?_)
          | (refine wv h (r_ar8 h rfl K.u_uint8 rfl 1 rfl (by first | omega | (simp only [List.length_cons, List.length_nil]; omega) | (simp; omega))) rfl ?_)
          | (refine wv h (r_ar8 h rfl K.u_uint8 rfl 2 rfl (by first | omega | (simp only [List.length_cons, List.length_nil]; omega) | (simp; omega))) rfl ?_)
          | (refine wv h (r_ar8 h rfl K.u_uint8 rfl 3 rfl (by first | omega | (simp only [List.length_cons, List.length_nil]; omega) | (simp; omega))) rfl ?_)
          | (refine wv h (r_ar8 h rfl K.u_uint8 rfl 4 rfl (by first | omega | (simp only [List.length_cons, List.length_nil]; omega) | (simp; omega))) rfl ?_)
          | (refine wv h (r_ar8 h rfl K.u_uint8 rfl 5 rfl (by first | omega | (simp only [List.length_cons, List.length_nil]; omega) | (simp; omega))) rfl ?_)
        clear h a w; intro a w h
        refine wv h (r_bin h rfl rfl (B.add_u8 (y := 1))) rfl ?_
        clear h a w; intro a w h
        refine wv h (r_arP h rfl rfl K.u_A32_uint8 K.sz_uint8 (by omega) (by first | omega | (simp only [List.length_cons, List.length_nil]; omega) | (simp; omega))) rfl ?_
        clear h a w; intro a w h
        first
          | (refine wl rfl (op_store8 h rfl rfl K.sz_uint8 0 rfl (by first | omega | (simp only [List.length_cons, List.length_nil]; omega) | (simp; omega)) ?_))
          | (refine wl rfl (op_store8 h rfl rfl K.sz_uint8 1 rfl (by first | omega | (simp only [List.length_cons, List.length_nil]; omega) | (simp; omega)) ?_))
          | (refine wl rfl (op_store8 h rfl rfl K.sz_uint8 2 rfl (by first | omega | (simp only [List.length_cons, List.length_nil]; omega) | (simp; omega)) ?_))
          | (refine wl rfl (op_store8 h rfl rfl K.sz_uint8 3 rfl (by first | omega | (simp only [List.length_cons, List.length_nil]; omega) | (simp; omega)) ?_))
          | (refine wl rfl (op_store8 h rfl rfl K.sz_uint8 4 rfl (by first | omega | (simp only [List.length_cons, List.length_nil]; omega) | (simp; omega)) ?_))
          | (refine wl rfl (op_store8 h rfl rfl K.sz_uint8 5 rfl (by first | omega | (simp only [List.length_cons, List.length_nil]; omega) | (simp; omega)) ?_))
        clear h a w; intro a w h
        (try simp only [List.set_cons_zero, List.set_cons_succ] at h)
        refine wnil (c_then ?_)
        refine c_seq (c_region ?_)
        first
          | (refine wv h (r_loadA8 h rfl K.u_A32_uint8 rfl K.sz_A32_uint8 0 rfl (by first | rfl | assumption | (simp; done) | (simp; omega) | omega)) rfl ?_)
          | (refine wv h (r_loadA8 h rfl K.u_A32_uint8 rfl K.sz_A32_uint8 1 rfl (by first | rfl | assumption | (simp; done) | (simp; omega) | omega)) rfl ?_)
          | (refine wv h (r_loadA8 h rfl K.u_A32_uint8 rfl K.sz_A32_uint8 2 rfl (by first | rfl | assumption | (simp; done) | (simp; omega) | omega)) rfl ?_)
          | (refine wv h (r_loadA8 h rfl K.u_A32_uint8 rfl K.sz_A32_uint8 3 rfl (by first | rfl | assumption | (simp; done) | (simp; omega) | omega)) rfl ?_)
          | (refine wv h (r_loadA8 h rfl K.u_A32_uint8 rfl K.sz_A32_uint8 4 rfl (by first | rfl | assumption | (simp; done) | (simp; omega) | omega)) rfl ?_)
          | (refine wv h (r_loadA8 h rfl K.u_A32_uint8 rfl K.sz_A32_uint8 5 rfl (by first | rfl | assumption | (simp; done) | (simp; omega) | omega)) rfl ?_)
          | (refine wv h (r_loadCA h rfl K.u_A32_uint8 rfl K.sz_A32_uint8 (by assumption) (by first | rfl | assumption | (simp; done) | (simp; omega) | omega)) rfl ?_)
        clear h a w; intro a w h
        first
          | (refine wl rfl (op_storeA8 h rfl rfl K.sz_A32_uint8 (by first | rfl | assumption | (simp; done) | (simp; omega) | omega) 0 rfl (by first | rfl | (simp [arr8]; done) | (simp [arr8]; omega) | (simp [arr8]; assumption)) ?_))
          | (refine wl rfl (op_storeA8 h rfl rfl K.sz_A32_uint8 (by first | rfl | assumption | (simp; done) | (simp; omega) | omega) 1 rfl (by first | rfl | (simp [arr8]; done) | (simp [arr8]; omega) | (simp [arr8]; assumption)) ?_))
          | (refine wl rfl (op_storeA8 h rfl rfl K.sz_A32_uint8 (by first | rfl | assumption | (simp; done) | (simp; omega) | omega) 2 rfl (by first | rfl | (simp [arr8]; done) | (simp [arr8]; omega) | (simp [arr8]; assumption)) ?_))
          | (refine wl rfl (op_storeA8 h rfl rfl K.sz_A32_uint8 (by first | rfl | assumption | (simp; done) | (simp; omega) | omega) 3 rfl (by first | rfl | (simp [arr8]; done) | (simp [arr8]; omega) | (simp [arr8]; assumption)) ?_))
          | (refine wl rfl (op_storeA8 h rfl rfl K.sz_A32_uint8 (by first | rfl | assumption | (simp; done) | (simp; omega) | omega) 4 rfl (by first | rfl | (simp [arr8]; done) | (simp [arr8]; omega) | (simp [arr8]; assumption)) ?_))
          | (refine wl rfl (op_storeA8 h rfl rfl K.sz_A32_uint8 (by first | rfl | assumption | (simp; done) | (simp; omega) | omega) 5 rfl (by first | rfl | (simp [arr8]; done) | (simp [arr8]; omega) | (simp [arr8]; assumption)) ?_))
        clear h a w; intro a w h
        (try simp only [List.set_cons_zero, List.set_cons_succ] at h)
        refine wnil (c_then ?_)
        refine c_region ?_
        refine wv h (r_arP h rfl rfl K.u_A32_uint8 K.sz_uint8 (by omega) (by first | omega | (simp only [List.length_cons, List.length_nil]; omega) | (simp; omega))) rfl ?_
        clear h a w; intro a w h
        first
          | (refine wv h (r_ar8 h rfl K.u_uint8 rfl 0 rfl (by first | omega | (simp only [List.length_cons, List.length_nil]; omega) | (simp; omega))) rfl ?_)
          | (refine wv h (r_ar8 h rfl K.u_uint8 rfl 1 rfl (by first | omega | (simp only [List.length_cons, List.length_nil]; omega) | (simp; omega))) rfl ?_)
          | (refine wv h (r_ar8 h rfl K.u_uint8 rfl 2 rfl (by first | omega | (simp only [List.length_cons, List.length_nil]; omega) | (simp; omega))) rfl ?_)
          | (refine wv h (r_ar8 h rfl K.u_uint8 rfl 3 rfl (by first | omega | (simp only [List.length_cons, List.length_nil]; omega) | (simp; omega))) rfl ?_)
          | (refine wv h (r_ar8 h rfl K.u_uint8 rfl 4 rfl (by first | omega | (simp only [List.length_cons, List.length_nil]; omega) | (simp; omega))) rfl ?_)
          | (refine wv h (r_ar8 h rfl K.u_uint8 rfl 5 rfl (by first | omega | (simp only [List.length_cons, List.length_nil]; omega) | (simp; omega))) rfl ?_)
        clear h a w; intro a w h
        refine wv h (r_bin h rfl rfl (B.add_u8 (y := 1))) rfl ?_
        clear h a w; intro a w h
        refine wv h (r_arP h rfl rfl K.u_A32_uint8 K.sz_uint8 (by omega) (by first | omega | (simp only [List.length_cons, List.length_nil]; omega) | (simp; omega))) rfl ?_
        clear h a w; intro a w h
        first
          | (refine wl rfl (op_store8 h rfl rfl K.sz_uint8 0 rfl (by first | omega | (simp only [List.length_cons, List.length_nil]; omega) | (simp; omega)) ?_))
          | (refine wl rfl (op_store8 h rfl rfl K.sz_uint8 1 rfl (by first | omega | (simp only [List.length_cons, List.length_nil]; omega) | (simp; omega)) ?_))
          | (refine wl rfl (op_store8 h rfl rfl K.sz_uint8 2 rfl (by first | omega | (simp only [List.length_cons, List.length_nil]; omega) | (simp; omega)) ?_))
          | (refine wl rfl (op_store8 h rfl rfl K.sz_uint8 3 rfl (by first | omega | (simp only [List.length_cons, List.length_nil]; omega) | (simp; omega)) ?_))
          | (refine wl rfl (op_store8 h rfl rfl K.sz_uint8 4 rfl (by first | omega | (simp only [List.length_cons, List.length_nil]; omega) | (simp; omega)) ?_))
          | (refine wl rfl (op_store8 h rfl rfl K.sz_uint8 5 rfl (by first | omega | (simp only [List.length_cons, List.length_nil]; omega) | (simp; omega)) ?_))
        clear h a w; intro a w h
        (try simp only [List.set_cons_zero, List.set_cons_succ] at h)
        refine wnil ?_
        exact ⟨(_, _), h.keep [4, 5, 6], by simp [hla]⟩
    ·
      refine c_skip ?_
      exact ⟨(lb, lc), h.keep [4, 5, 6], hlb, hlc⟩
  ·
    clear h a w; intro z a w hz h
    obtain ⟨z1, z2⟩ := z
    obtain ⟨hz1, hz2⟩ := hz
    replace hz1 : z1.length = 32 := hz1
    replace hz2 : z2.length = 32 := hz2
    dsimp only at h
    refine c_seq ?_
    refine c_seq (c_region ?_)
    first
      | (refine wv h (r_loadA8 h rfl K.u_A32_uint8 rfl K.sz_A32_uint8 0 rfl (by first | rfl | assumption | (simp; done) | (simp; omega) | omega)) rfl ?_)
      | (refine wv h (r_loadA8 h rfl K.u_A32_uint8 rfl K.sz_A32_uint8 1 rfl (by first | rfl | assumption | (simp; done) | (simp; omega) | omega)) rfl ?_)
      | (refine wv h (r_loadA8 h rfl K.u_A32_uint8 rfl K.sz_A32_uint8 2 rfl (by first | rfl | assumption | (simp; done) | (simp; omega) | omega)) rfl ?_)
      | (refine wv h (r_loadA8 h rfl K.u_A32_uint8 rfl K.sz_A32_uint8 3 rfl (by first | rfl | assumption | (simp; done) | (simp; omega) | omega)) rfl ?_)
      | (refine wv h (r_loadA8 h rfl K.u_A32_uint8 rfl K.sz_A32_uint8 4 rfl (by first | rfl | assumption | (simp; done) | (simp; omega) | omega)) rfl ?_)
      | (refine wv h (r_loadA8 h rfl K.u_A32_uint8 rfl K.sz_A32_uint8 5 rfl (by first | rfl | assumption | (simp; done) | (simp; omega) | omega)) rfl ?_)
      | (refine wv h (r_loadCA h rfl K.u_A32_uint8 rfl K.sz_A32_uint8 (by assumption) (by first | rfl | assumption | (simp; done) | (simp; omega) | omega)) rfl ?_)
    clear h a w; intro a w h
    first
      | (refine wv h (r_loadA8 h rfl K.u_A32_uint8 rfl K.sz_A32_uint8 0 rfl (by first | rfl | assumption | (simp; done) | (simp; omega) | omega)) rfl ?_)
      | (refine wv h (r_loadA8 h rfl K.u_A32_uint8 rfl K.sz_A32_uint8 1 rfl (by first | rfl | assumption | (simp; done) | (simp; omega) | omega)) rfl ?_)
      | (refine wv h (r_loadA8 h rfl K.u_A32_uint8 rfl K.sz_A32_uint8 2 rfl (by first | rfl | assumption | (simp; done) | (simp; omega) | omega)) rfl ?_)
      | (refine wv h (r_loadA8 h rfl K.u_A32_uint8 rfl K.sz_A32_uint8 3 rfl (by first | rfl | assumption | (simp; done) | (simp; omega) | omega)) rfl ?_)
      | (refine wv h (r_loadA8 h rfl K.u_A32_uint8 rfl K.sz_A32_uint8 4 rfl (by first | rfl | assumption | (simp; done) | (simp; omega) | omega)) rfl ?_)
      | (refine wv h (r_loadA8 h rfl K.u_A32_uint8 rfl K.sz_A32_uint8 5 rfl (by first | rfl | assumption | (simp; done) | (simp; omega) | omega)) rfl ?_)
      | (refine wv h (r_loadCA h rfl K.u_A32_uint8 rfl K.sz_A32_uint8 (by assumption) (by first | rfl | assumption | (simp; done) | (simp; omega) | omega)) rfl ?_)
    clear h a w; intro a w h
    refine wl rfl (op_call h rfl K.go_stamp_Less (stamp_Less s _ _ _ (by first | rfl | assumption | (simp; done) | (simp; omega) | omega) (by first | rfl | assumption | (simp; done) | (simp; omega) | omega) _ h.2) rfl ?_)
    clear h a w; intro x a w hx h
    refine wv h (r_move h rfl) rfl ?_
    clear h a w; intro a w h
    refine wvG h (by first | exact .t rfl | exact .f rfl | exact .gt rfl | exact .gf rfl) (fun hg => by (try simp only [gval_on hg, gval_and hg] at h); (have hg2 := hg; (try simp only [Bool.and_eq_true, Bool.or_eq_true, Bool.not_eq_true', decide_eq_true_eq, decide_eq_false_iff_not] at hg2)); first | exact r_loadA8 h rfl K.u_A32_uint8 rfl K.sz_A32_uint8 0 rfl (by first | rfl | assumption | (simp; done) | (simp; omega) | omega) | exact r_loadA8 h rfl K.u_A32_uint8 rfl K.sz_A32_uint8 1 rfl (by first | rfl | assumption | (simp; done) | (simp; omega) | omega) | exact r_loadA8 h rfl K.u_A32_uint8 rfl K.sz_A32_uint8 2 rfl (by first | rfl | assumption | (simp; done) | (simp; omega) | omega) | exact r_loadA8 h rfl K.u_A32_uint8 rfl K.sz_A32_uint8 3 rfl (by first | rfl | assumption | (simp; done) | (simp; omega) | omega) | exact r_loadA8 h rfl K.u_A32_uint8 rfl K.sz_A32_uint8 4 rfl (by first | rfl | assumption | (simp; done) | (simp; omega) | omega) | exact r_loadA8 h rfl K.u_A32_uint8 rfl K.sz_A32_uint8 5 rfl (by first | rfl | assumption | (simp; done) | (simp; omega) | omega) | exact r_loadCA h rfl K.u_A32_uint8 rfl K.sz_A32_uint8 (by assumption) (by first | rfl | assumption | (simp; done) | (simp; omega) | omega)) rfl ?_
    clear h a w; intro a w h
    refine wvG h (by first | exact .t rfl | exact .f rfl | exact .gt rfl | exact .gf rfl) (fun hg => by (try simp only [gval_on hg, gval_and hg] at h); (have hg2 := hg; (try simp only [Bool.and_eq_true, Bool.or_eq_true, Bool.not_eq_true', decide_eq_true_eq, decide_eq_false_iff_not] at hg2)); first | exact r_loadA8 h rfl K.u_A32_uint8 rfl K.sz_A32_uint8 0 rfl (by first | rfl | assumption | (simp; done) | (simp; omega) | omega) | exact r_loadA8 h rfl K.u_A32_uint8 rfl K.sz_A32_uint8 1 rfl (by first | rfl | assumption | (simp; done) | (simp; omega) | omega) | exact r_loadA8 h rfl K.u_A32_uint8 rfl K.sz_A32_uint8 2 rfl (by first | rfl | assumption | (simp; done) | (simp; omega) | omega) | exact r_loadA8 h rfl K.u_A32_uint8 rfl K.sz_A32_uint8 3 rfl (by first | rfl | assumption | (simp; done) | (simp; omega) | omega) | exact r_loadA8 h rfl K.u_A32_uint8 rfl K.sz_A32_uint8 4 rfl (by first | rfl | assumption | (simp; done) | (simp; omega) | omega) | exact r_loadA8 h rfl K.u_A32_uint8 rfl K.sz_A32_uint8 5 rfl (by first | rfl | assumption | (simp; done) | (simp; omega) | omega) | exact r_loadCA h rfl K.u_A32_uint8 rfl K.sz_A32_uint8 (by assumption) (by first | rfl | assumption | (simp; done) | (simp; omega) | omega)) rfl ?_
    clear h a w; intro a w h
    refine wcG h (by first | exact .t rfl | exact .f rfl | exact .gt rfl | exact .gf rfl) K.go_stamp_Less (fun hg => by (try simp only [gval_on hg, gval_and hg]); (have hg2 := hg; (try simp only [Bool.and_eq_true, Bool.or_eq_true, Bool.not_eq_true', decide_eq_true_eq, decide_eq_false_iff_not] at hg2)); exact ⟨_, rfl, stamp_Less s _ _ _ (by first | rfl | assumption | (simp; done) | (simp; omega) | omega) (by first | rfl | assumption | (simp; done) | (simp; omega) | omega) _ h.2⟩) rfl ?_
    clear h a w; intro a w h
    first
      | (refine wv h (r_pickA h rfl rfl rfl) rfl ?_)
      | (refine wv h (r_pickO h rfl rfl rfl) rfl ?_)
      | (refine wv h (r_pick_true h rfl rfl) rfl ?_)
      | (refine wv h (r_pick_false h rfl rfl) rfl ?_)
      | (refine wv h (r_pick h rfl rfl rfl) rfl ?_)
    clear h a w; intro a w h
    refine wv h (r_move h rfl) rfl ?_
    clear h a w; intro a w h
    refine wvG h (by first | exact .t rfl | exact .f rfl | exact .gt rfl | exact .gf rfl) (fun hg => by (try simp only [gval_on hg, gval_and hg] at h); (have hg2 := hg; (try simp only [Bool.and_eq_true, Bool.or_eq_true, Bool.not_eq_true', decide_eq_true_eq, decide_eq_false_iff_not] at hg2)); first | exact r_loadA8 h rfl K.u_A32_uint8 rfl K.sz_A32_uint8 0 rfl (by first | rfl | assumption | (simp; done) | (simp; omega) | omega) | exact r_loadA8 h rfl K.u_A32_uint8 rfl K.sz_A32_uint8 1 rfl (by first | rfl | assumption | (simp; done) | (simp; omega) | omega) | exact r_loadA8 h rfl K.u_A32_uint8 rfl K.sz_A32_uint8 2 rfl (by first | rfl | assumption | (simp; done) | (simp; omega) | omega) | exact r_loadA8 h rfl K.u_A32_uint8 rfl K.sz_A32_uint8 3 rfl (by first | rfl | assumption | (simp; done) | (simp; omega) | omega) | exact r_loadA8 h rfl K.u_A32_uint8 rfl K.sz_A32_uint8 4 rfl (by first | rfl | assumption | (simp; done) | (simp; omega) | omega) | exact r_loadA8 h rfl K.u_A32_uint8 rfl K.sz_A32_uint8 5 rfl (by first | rfl | assumption | (simp; done) | (simp; omega) | omega) | exact r_loadCA h rfl K.u_A32_uint8 rfl K.sz_A32_uint8 (by assumption) (by first | rfl | assumption | (simp; done) | (simp; omega) | omega)) rfl ?_
    clear h a w; intro a w h
    refine wvG h (by first | exact .t rfl | exact .f rfl | exact .gt rfl | exact .gf rfl) (fun hg => by (try simp only [gval_on hg, gval_and hg] at h); (have hg2 := hg; (try simp only [Bool.and_eq_true, Bool.or_eq_true, Bool.not_eq_true', decide_eq_true_eq, decide_eq_false_iff_not] at hg2)); first | exact r_loadA8 h rfl K.u_A32_uint8 rfl K.sz_A32_uint8 0 rfl (by first | rfl | assumption | (simp; done) | (simp; omega) | omega) | exact r_loadA8 h rfl K.u_A32_uint8 rfl K.sz_A32_uint8 1 rfl (by first | rfl | assumption | (simp; done) | (simp; omega) | omega) | exact r_loadA8 h rfl K.u_A32_uint8 rfl K.sz_A32_uint8 2 rfl (by first | rfl | assumption | (simp; done) | (simp; omega) | omega) | exact r_loadA8 h rfl K.u_A32_uint8 rfl K.sz_A32_uint8 3 rfl (by first | rfl | assumption | (simp; done) | (simp; omega) | omega) | exact r_loadA8 h rfl K.u_A32_uint8 rfl K.sz_A32_uint8 4 rfl (by first | rfl | assumption | (simp; done) | (simp; omega) | omega) | exact r_loadA8 h rfl K.u_A32_uint8 rfl K.sz_A32_uint8 5 rfl (by first | rfl | assumption | (simp; done) | (simp; omega) | omega) | exact r_loadCA h rfl K.u_A32_uint8 rfl K.sz_A32_uint8 (by assumption) (by first | rfl | assumption | (simp; done) | (simp; omega) | omega)) rfl ?_
    clear h a w; intro a w h
    refine wcG h (by first | exact .t rfl | exact .f rfl | exact .gt rfl | exact .gf rfl) K.go_stamp_Less (fun hg => by (try simp only [gval_on hg, gval_and hg]); (have hg2 := hg; (try simp only [Bool.and_eq_true, Bool.or_eq_true, Bool.not_eq_true', decide_eq_true_eq, decide_eq_false_iff_not] at hg2)); exact ⟨_, rfl, stamp_Less s _ _ _ (by first | rfl | assumption | (simp; done) | (simp; omega) | omega) (by first | rfl | assumption | (simp; done) | (simp; omega) | omega) _ h.2⟩) rfl ?_
    clear h a w; intro a w h
    refine wvG h (by first | exact .t rfl | exact .f rfl | exact .gt rfl | exact .gf rfl) (fun hg => by (try simp only [gval_on hg, gval_and hg] at h); (have hg2 := hg; (try simp only [Bool.and_eq_true, Bool.or_eq_true, Bool.not_eq_true', decide_eq_true_eq, decide_eq_false_iff_not] at hg2)); first | exact r_not h rfl) rfl ?_
    clear h a w; intro a w h
    first
      | (refine wv h (r_pickA h rfl rfl rfl) rfl ?_)
      | (refine wv h (r_pickO h rfl rfl rfl) rfl ?_)
      | (refine wv h (r_pick_true h rfl rfl) rfl ?_)
      | (refine wv h (r_pick_false h rfl rfl) rfl ?_)
      | (refine wv h (r_pick h rfl rfl rfl) rfl ?_)
    clear h a w; intro a w h
    refine wnil (c_then ?_)
    first
      | refine c_condD h rfl (fun ht2 => ?_) (fun ht2 => ?_)
      | refine c_condP h rfl (by first | (simp only [Bool.and_eq_true, Bool.or_eq_true, Bool.not_eq_true', decide_eq_true_eq, decide_eq_false_iff_not, ne_eq, Bool.not_eq_eq_eq_not, Bool.not_true, beq_iff_eq, bne_iff_ne]; exact Iff.rfl) | exact Iff.rfl) (fun ht2 => ?_) (fun ht2 => ?_)
    ·
      exfalso
      have := bytesLess_trans la z1 z2 ht2.1.1 ht2.1.2
      rw [this] at ht2
      simp at ht2
    ·
      refine c_skip ?_
      refine c_then ?_
      refine c_seq (c_draw K.mixed (by kernel_rfl) h ?_)
      clear h a w; intro a hE
      refine q_c hE rfl K.go_law02_awake (fun w hw => law02_awake s _ _ (by first | assumption | exact CellsAt.cons (by assumption) _ | exact CellsAt.cons (CellsAt.cons (by assumption) _) _ | exact CellsAt.cons (CellsAt.cons (CellsAt.cons (by assumption) _) _) _ | exact CellsAt.cons (CellsAt.cons (CellsAt.cons (CellsAt.cons (by assumption) _) _) _) _) (by first | assumption | exact CellsAt.cons (by assumption) _ | exact CellsAt.cons (CellsAt.cons (by assumption) _) _ | exact CellsAt.cons (CellsAt.cons (CellsAt.cons (by assumption) _) _) _ | exact CellsAt.cons (CellsAt.cons (CellsAt.cons (CellsAt.cons (by assumption) _) _) _) _) hw) rfl ?_
      clear hE a; intro a hE
      refine qv hE (fun w hw => r_move ⟨hE, hw⟩ rfl) rfl ?_
      clear hE a; intro a hE
      refine qvG hE (by first | exact .t rfl | exact .f rfl | exact .gt rfl | exact .gf rfl) (fun hg w hw => by (try simp only [gval_on hg, gval_and hg] at hE); (have hg2 := hg; (try simp only [Bool.and_eq_true, Bool.or_eq_true, Bool.not_eq_true', decide_eq_true_eq, decide_eq_false_iff_not] at hg2)); first | exact r_loadA8 ⟨hE, hw⟩ rfl K.u_A32_uint8 rfl K.sz_A32_uint8 0 rfl (by first | rfl | assumption | (simp; done) | (simp; omega) | omega) | exact r_loadA8 ⟨hE, hw⟩ rfl K.u_A32_uint8 rfl K.sz_A32_uint8 1 rfl (by first | rfl | assumption | (simp; done) | (simp; omega) | omega) | exact r_loadA8 ⟨hE, hw⟩ rfl K.u_A32_uint8 rfl K.sz_A32_uint8 2 rfl (by first | rfl | assumption | (simp; done) | (simp; omega) | omega) | exact r_loadA8 ⟨hE, hw⟩ rfl K.u_A32_uint8 rfl K.sz_A32_uint8 3 rfl (by first | rfl | assumption | (simp; done) | (simp; omega) | omega) | exact r_loadA8 ⟨hE, hw⟩ rfl K.u_A32_uint8 rfl K.sz_A32_uint8 4 rfl (by first | rfl | assumption | (simp; done) | (simp; omega) | omega) | exact r_loadA8 ⟨hE, hw⟩ rfl K.u_A32_uint8 rfl K.sz_A32_uint8 5 rfl (by first | rfl | assumption | (simp; done) | (simp; omega) | omega) | exact r_loadCA ⟨hE, hw⟩ rfl K.u_A32_uint8 rfl K.sz_A32_uint8 (by assumption) (by first | rfl | assumption | (simp; done) | (simp; omega) | omega)) rfl ?_
      clear hE a; intro a hE
      refine qvG hE (by first | exact .t rfl | exact .f rfl | exact .gt rfl | exact .gf rfl) (fun hg w hw => by (try simp only [gval_on hg, gval_and hg] at hE); (have hg2 := hg; (try simp only [Bool.and_eq_true, Bool.or_eq_true, Bool.not_eq_true', decide_eq_true_eq, decide_eq_false_iff_not] at hg2)); first | exact r_loadA8 ⟨hE, hw⟩ rfl K.u_A32_uint8 rfl K.sz_A32_uint8 0 rfl (by first | rfl | assumption | (simp; done) | (simp; omega) | omega) | exact r_loadA8 ⟨hE, hw⟩ rfl K.u_A32_uint8 rfl K.sz_A32_uint8 1 rfl (by first | rfl | assumption | (simp; done) | (simp; omega) | omega) | exact r_loadA8 ⟨hE, hw⟩ rfl K.u_A32_uint8 rfl K.sz_A32_uint8 2 rfl (by first | rfl | assumption | (simp; done) | (simp; omega) | omega) | exact r_loadA8 ⟨hE, hw⟩ rfl K.u_A32_uint8 rfl K.sz_A32_uint8 3 rfl (by first | rfl | assumption | (simp; done) | (simp; omega) | omega) | exact r_loadA8 ⟨hE, hw⟩ rfl K.u_A32_uint8 rfl K.sz_A32_uint8 4 rfl (by first | rfl | assumption | (simp; done) | (simp; omega) | omega) | exact r_loadA8 ⟨hE, hw⟩ rfl K.u_A32_uint8 rfl K.sz_A32_uint8 5 rfl (by first | rfl | assumption | (simp; done) | (simp; omega) | omega) | exact r_loadCA ⟨hE, hw⟩ rfl K.u_A32_uint8 rfl K.sz_A32_uint8 (by assumption) (by first | rfl | assumption | (simp; done) | (simp; omega) | omega)) rfl ?_
      clear hE a; intro a hE
      refine q_cG hE (by first | exact .t rfl | exact .f rfl | exact .gt rfl | exact .gf rfl) K.go_stamp_Less (fun hg => by (try simp only [gval_on hg, gval_and hg]); (have hg2 := hg; (try simp only [Bool.and_eq_true, Bool.or_eq_true, Bool.not_eq_true', decide_eq_true_eq, decide_eq_false_iff_not] at hg2)); exact ⟨_, rfl, fun w hw => stamp_Less s _ _ _ (by first | rfl | assumption | (simp; done) | (simp; omega) | omega) (by first | rfl | assumption | (simp; done) | (simp; omega) | omega) _ hw⟩) rfl ?_
      clear hE a; intro a hE
      refine qvG hE (by first | exact .t rfl | exact .f rfl | exact .gt rfl | exact .gf rfl) (fun hg w hw => by (try simp only [gval_on hg, gval_and hg] at hE); (have hg2 := hg; (try simp only [Bool.and_eq_true, Bool.or_eq_true, Bool.not_eq_true', decide_eq_true_eq, decide_eq_false_iff_not] at hg2)); first | exact r_move ⟨hE, hw⟩ rfl) rfl ?_
      clear hE a; intro a hE
      refine qvG hE (by first | exact .t rfl | exact .f rfl | exact .gt rfl | exact .gf rfl) (fun hg w hw => by (try simp only [gval_on hg, gval_and hg] at hE); (have hg2 := hg; (try simp only [Bool.and_eq_true, Bool.or_eq_true, Bool.not_eq_true', decide_eq_true_eq, decide_eq_false_iff_not] at hg2)); first | exact r_loadA8 ⟨hE, hw⟩ rfl K.u_A32_uint8 rfl K.sz_A32_uint8 0 rfl (by first | rfl | assumption | (simp; done) | (simp; omega) | omega) | exact r_loadA8 ⟨hE, hw⟩ rfl K.u_A32_uint8 rfl K.sz_A32_uint8 1 rfl (by first | rfl | assumption | (simp; done) | (simp; omega) | omega) | exact r_loadA8 ⟨hE, hw⟩ rfl K.u_A32_uint8 rfl K.sz_A32_uint8 2 rfl (by first | rfl | assumption | (simp; done) | (simp; omega) | omega) | exact r_loadA8 ⟨hE, hw⟩ rfl K.u_A32_uint8 rfl K.sz_A32_uint8 3 rfl (by first | rfl | assumption | (simp; done) | (simp; omega) | omega) | exact r_loadA8 ⟨hE, hw⟩ rfl K.u_A32_uint8 rfl K.sz_A32_uint8 4 rfl (by first | rfl | assumption | (simp; done) | (simp; omega) | omega) | exact r_loadA8 ⟨hE, hw⟩ rfl K.u_A32_uint8 rfl K.sz_A32_uint8 5 rfl (by first | rfl | assumption | (simp; done) | (simp; omega) | omega) | exact r_loadCA ⟨hE, hw⟩ rfl K.u_A32_uint8 rfl K.sz_A32_uint8 (by assumption) (by first | rfl | assumption | (simp; done) | (simp; omega) | omega)) rfl ?_
      clear hE a; intro a hE
      refine qvG hE (by first | exact .t rfl | exact .f rfl | exact .gt rfl | exact .gf rfl) (fun hg w hw => by (try simp only [gval_on hg, gval_and hg] at hE); (have hg2 := hg; (try simp only [Bool.and_eq_true, Bool.or_eq_true, Bool.not_eq_true', decide_eq_true_eq, decide_eq_false_iff_not] at hg2)); first | exact r_loadA8 ⟨hE, hw⟩ rfl K.u_A32_uint8 rfl K.sz_A32_uint8 0 rfl (by first | rfl | assumption | (simp; done) | (simp; omega) | omega) | exact r_loadA8 ⟨hE, hw⟩ rfl K.u_A32_uint8 rfl K.sz_A32_uint8 1 rfl (by first | rfl | assumption | (simp; done) | (simp; omega) | omega) | exact r_loadA8 ⟨hE, hw⟩ rfl K.u_A32_uint8 rfl K.sz_A32_uint8 2 rfl (by first | rfl | assumption | (simp; done) | (simp; omega) | omega) | exact r_loadA8 ⟨hE, hw⟩ rfl K.u_A32_uint8 rfl K.sz_A32_uint8 3 rfl (by first | rfl | assumption | (simp; done) | (simp; omega) | omega) | exact r_loadA8 ⟨hE, hw⟩ rfl K.u_A32_uint8 rfl K.sz_A32_uint8 4 rfl (by first | rfl | assumption | (simp; done) | (simp; omega) | omega) | exact r_loadA8 ⟨hE, hw⟩ rfl K.u_A32_uint8 rfl K.sz_A32_uint8 5 rfl (by first | rfl | assumption | (simp; done) | (simp; omega) | omega) | exact r_loadCA ⟨hE, hw⟩ rfl K.u_A32_uint8 rfl K.sz_A32_uint8 (by assumption) (by first | rfl | assumption | (simp; done) | (simp; omega) | omega)) rfl ?_
      clear hE a; intro a hE
      refine q_cG hE (by first | exact .t rfl | exact .f rfl | exact .gt rfl | exact .gf rfl) K.go_stamp_Less (fun hg => by (try simp only [gval_on hg, gval_and hg]); (have hg2 := hg; (try simp only [Bool.and_eq_true, Bool.or_eq_true, Bool.not_eq_true', decide_eq_true_eq, decide_eq_false_iff_not] at hg2)); exact ⟨_, rfl, fun w hw => stamp_Less s _ _ _ (by first | rfl | assumption | (simp; done) | (simp; omega) | omega) (by first | rfl | assumption | (simp; done) | (simp; omega) | omega) _ hw⟩) rfl ?_
      clear hE a; intro a hE
      refine qvG hE (by first | exact .t rfl | exact .f rfl | exact .gt rfl | exact .gf rfl) (fun hg w hw => by (try simp only [gval_on hg, gval_and hg] at hE); (have hg2 := hg; (try simp only [Bool.and_eq_true, Bool.or_eq_true, Bool.not_eq_true', decide_eq_true_eq, decide_eq_false_iff_not] at hg2)); first | exact r_pickA ⟨hE, hw⟩ rfl rfl rfl | exact r_pickO ⟨hE, hw⟩ rfl rfl rfl | exact r_pick_true ⟨hE, hw⟩ rfl rfl | exact r_pick_false ⟨hE, hw⟩ rfl rfl | exact r_pick ⟨hE, hw⟩ rfl rfl rfl) rfl ?_
      clear hE a; intro a hE
      refine qvG hE (by first | exact .t rfl | exact .f rfl | exact .gt rfl | exact .gf rfl) (fun hg w hw => by (try simp only [gval_on hg, gval_and hg] at hE); (have hg2 := hg; (try simp only [Bool.and_eq_true, Bool.or_eq_true, Bool.not_eq_true', decide_eq_true_eq, decide_eq_false_iff_not] at hg2)); first | exact r_move ⟨hE, hw⟩ rfl) rfl ?_
      clear hE a; intro a hE
      refine qvG hE (by first | exact .t rfl | exact .f rfl | exact .gt rfl | exact .gf rfl) (fun hg w hw => by (try simp only [gval_on hg, gval_and hg] at hE); (have hg2 := hg; (try simp only [Bool.and_eq_true, Bool.or_eq_true, Bool.not_eq_true', decide_eq_true_eq, decide_eq_false_iff_not] at hg2)); first | exact r_loadA8 ⟨hE, hw⟩ rfl K.u_A32_uint8 rfl K.sz_A32_uint8 0 rfl (by first | rfl | assumption | (simp; done) | (simp; omega) | omega) | exact r_loadA8 ⟨hE, hw⟩ rfl K.u_A32_uint8 rfl K.sz_A32_uint8 1 rfl (by first | rfl | assumption | (simp; done) | (simp; omega) | omega) | exact r_loadA8 ⟨hE, hw⟩ rfl K.u_A32_uint8 rfl K.sz_A32_uint8 2 rfl (by first | rfl | assumption | (simp; done) | (simp; omega) | omega) | exact r_loadA8 ⟨hE, hw⟩ rfl K.u_A32_uint8 rfl K.sz_A32_uint8 3 rfl (by first | rfl | assumption | (simp; done) | (simp; omega) | omega) | exact r_loadA8 ⟨hE, hw⟩ rfl K.u_A32_uint8 rfl K.sz_A32_uint8 4 rfl (by first | rfl | assumption | (simp; done) | (simp; omega) | omega) | exact r_loadA8 ⟨hE, hw⟩ rfl K.u_A32_uint8 rfl K.sz_A32_uint8 5 rfl (by first | rfl | assumption | (simp; done) | (simp; omega) | omega) | exact r_loadCA ⟨hE, hw⟩ rfl K.u_A32_uint8 rfl K.sz_A32_uint8 (by assumption) (by first | rfl | assumption | (simp; done) | (simp; omega) | omega)) rfl ?_
      clear hE a; intro a hE
      refine qvG hE (by first | exact .t rfl | exact .f rfl | exact .gt rfl | exact .gf rfl) (fun hg w hw => by (try simp only [gval_on hg, gval_and hg] at hE); (have hg2 := hg; (try simp only [Bool.and_eq_true, Bool.or_eq_true, Bool.not_eq_true', decide_eq_true_eq, decide_eq_false_iff_not] at hg2)); first | exact r_loadA8 ⟨hE, hw⟩ rfl K.u_A32_uint8 rfl K.sz_A32_uint8 0 rfl (by first | rfl | assumption | (simp; done) | (simp; omega) | omega) | exact r_loadA8 ⟨hE, hw⟩ rfl K.u_A32_uint8 rfl K.sz_A32_uint8 1 rfl (by first | rfl | assumption | (simp; done) | (simp; omega) | omega) | exact r_loadA8 ⟨hE, hw⟩ rfl K.u_A32_uint8 rfl K.sz_A32_uint8 2 rfl (by first | rfl | assumption | (simp; done) | (simp; omega) | omega) | exact r_loadA8 ⟨hE, hw⟩ rfl K.u_A32_uint8 rfl K.sz_A32_uint8 3 rfl (by first | rfl | assumption | (simp; done) | (simp; omega) | omega) | exact r_loadA8 ⟨hE, hw⟩ rfl K.u_A32_uint8 rfl K.sz_A32_uint8 4 rfl (by first | rfl | assumption | (simp; done) | (simp; omega) | omega) | exact r_loadA8 ⟨hE, hw⟩ rfl K.u_A32_uint8 rfl K.sz_A32_uint8 5 rfl (by first | rfl | assumption | (simp; done) | (simp; omega) | omega) | exact r_loadCA ⟨hE, hw⟩ rfl K.u_A32_uint8 rfl K.sz_A32_uint8 (by assumption) (by first | rfl | assumption | (simp; done) | (simp; omega) | omega)) rfl ?_
      clear hE a; intro a hE
      refine qvG hE (by first | exact .t rfl | exact .f rfl | exact .gt rfl | exact .gf rfl) (fun hg w hw => by (try simp only [gval_on hg, gval_and hg] at hE); (have hg2 := hg; (try simp only [Bool.and_eq_true, Bool.or_eq_true, Bool.not_eq_true', decide_eq_true_eq, decide_eq_false_iff_not] at hg2)); first | exact r_arreq ⟨hE, hw⟩ rfl rfl K.u_A32_uint8 K.u_uint8 K.sz_uint8 (by kernel_rfl) (by first | rfl | assumption | (simp; done) | (simp; omega) | omega) (by first | rfl | assumption | (simp; done) | (simp; omega) | omega)) rfl ?_
      clear hE a; intro a hE
      refine qvG hE (by first | exact .t rfl | exact .f rfl | exact .gt rfl | exact .gf rfl) (fun hg w hw => by (try simp only [gval_on hg, gval_and hg] at hE); (have hg2 := hg; (try simp only [Bool.and_eq_true, Bool.or_eq_true, Bool.not_eq_true', decide_eq_true_eq, decide_eq_false_iff_not] at hg2)); first | exact r_pickA ⟨hE, hw⟩ rfl rfl rfl | exact r_pickO ⟨hE, hw⟩ rfl rfl rfl | exact r_pick_true ⟨hE, hw⟩ rfl rfl | exact r_pick_false ⟨hE, hw⟩ rfl rfl | exact r_pick ⟨hE, hw⟩ rfl rfl rfl) rfl ?_
      clear hE a; intro a hE
      first
        | (refine qv hE (fun w hw => r_pickA ⟨hE, hw⟩ rfl rfl rfl) rfl ?_)
        | (refine qv hE (fun w hw => r_pickO ⟨hE, hw⟩ rfl rfl rfl) rfl ?_)
        | (refine qv hE (fun w hw => r_pick_true ⟨hE, hw⟩ rfl rfl) rfl ?_)
        | (refine qv hE (fun w hw => r_pick_false ⟨hE, hw⟩ rfl rfl) rfl ?_)
        | (refine qv hE (fun w hw => r_pick ⟨hE, hw⟩ rfl rfl rfl) rfl ?_)
      clear hE a; intro a hE
      refine qv hE (fun w hw => r_move ⟨hE, hw⟩ rfl) rfl ?_
      clear hE a; intro a hE
      refine qvG hE (by first | exact .t rfl | exact .f rfl | exact .gt rfl | exact .gf rfl) (fun hg w hw => by (try simp only [gval_on hg, gval_and hg] at hE); (have hg2 := hg; (try simp only [Bool.and_eq_true, Bool.or_eq_true, Bool.not_eq_true', decide_eq_true_eq, decide_eq_false_iff_not] at hg2)); first | exact r_loadA8 ⟨hE, hw⟩ rfl K.u_A32_uint8 rfl K.sz_A32_uint8 0 rfl (by first | rfl | assumption | (simp; done) | (simp; omega) | omega) | exact r_loadA8 ⟨hE, hw⟩ rfl K.u_A32_uint8 rfl K.sz_A32_uint8 1 rfl (by first | rfl | assumption | (simp; done) | (simp; omega) | omega) | exact r_loadA8 ⟨hE, hw⟩ rfl K.u_A32_uint8 rfl K.sz_A32_uint8 2 rfl (by first | rfl | assumption | (simp; done) | (simp; omega) | omega) | exact r_loadA8 ⟨hE, hw⟩ rfl K.u_A32_uint8 rfl K.sz_A32_uint8 3 rfl (by first | rfl | assumption | (simp; done) | (simp; omega) | omega) | exact r_loadA8 ⟨hE, hw⟩ rfl K.u_A32_uint8 rfl K.sz_A32_uint8 4 rfl (by first | rfl | assumption | (simp; done) | (simp; omega) | omega) | exact r_loadA8 ⟨hE, hw⟩ rfl K.u_A32_uint8 rfl K.sz_A32_uint8 5 rfl (by first | rfl | assumption | (simp; done) | (simp; omega) | omega) | exact r_loadCA ⟨hE, hw⟩ rfl K.u_A32_uint8 rfl K.sz_A32_uint8 (by assumption) (by first | rfl | assumption | (simp; done) | (simp; omega) | omega)) rfl ?_
      clear hE a; intro a hE
      refine qvG hE (by first | exact .t rfl | exact .f rfl | exact .gt rfl | exact .gf rfl) (fun hg w hw => by (try simp only [gval_on hg, gval_and hg] at hE); (have hg2 := hg; (try simp only [Bool.and_eq_true, Bool.or_eq_true, Bool.not_eq_true', decide_eq_true_eq, decide_eq_false_iff_not] at hg2)); first | exact r_loadA8 ⟨hE, hw⟩ rfl K.u_A32_uint8 rfl K.sz_A32_uint8 0 rfl (by first | rfl | assumption | (simp; done) | (simp; omega) | omega) | exact r_loadA8 ⟨hE, hw⟩ rfl K.u_A32_uint8 rfl K.sz_A32_uint8 1 rfl (by first | rfl | assumption | (simp; done) | (simp; omega) | omega) | exact r_loadA8 ⟨hE, hw⟩ rfl K.u_A32_uint8 rfl K.sz_A32_uint8 2 rfl (by first | rfl | assumption | (simp; done) | (simp; omega) | omega) | exact r_loadA8 ⟨hE, hw⟩ rfl K.u_A32_uint8 rfl K.sz_A32_uint8 3 rfl (by first | rfl | assumption | (simp; done) | (simp; omega) | omega) | exact r_loadA8 ⟨hE, hw⟩ rfl K.u_A32_uint8 rfl K.sz_A32_uint8 4 rfl (by first | rfl | assumption | (simp; done) | (simp; omega) | omega) | exact r_loadA8 ⟨hE, hw⟩ rfl K.u_A32_uint8 rfl K.sz_A32_uint8 5 rfl (by first | rfl | assumption | (simp; done) | (simp; omega) | omega) | exact r_loadCA ⟨hE, hw⟩ rfl K.u_A32_uint8 rfl K.sz_A32_uint8 (by assumption) (by first | rfl | assumption | (simp; done) | (simp; omega) | omega)) rfl ?_
      clear hE a; intro a hE
      refine q_cG hE (by first | exact .t rfl | exact .f rfl | exact .gt rfl | exact .gf rfl) K.go_stamp_Less (fun hg => by (try simp only [gval_on hg, gval_and hg]); (have hg2 := hg; (try simp only [Bool.and_eq_true, Bool.or_eq_true, Bool.not_eq_true', decide_eq_true_eq, decide_eq_false_iff_not] at hg2)); exact ⟨_, rfl, fun w hw => stamp_Less s _ _ _ (by first | rfl | assumption | (simp; done) | (simp; omega) | omega) (by first | rfl | assumption | (simp; done) | (simp; omega) | omega) _ hw⟩) rfl ?_
      clear hE a; intro a hE
      refine qvG hE (by first | exact .t rfl | exact .f rfl | exact .gt rfl | exact .gf rfl) (fun hg w hw => by (try simp only [gval_on hg, gval_and hg] at hE); (have hg2 := hg; (try simp only [Bool.and_eq_true, Bool.or_eq_true, Bool.not_eq_true', decide_eq_true_eq, decide_eq_false_iff_not] at hg2)); first | exact r_loadA8 ⟨hE, hw⟩ rfl K.u_A32_uint8 rfl K.sz_A32_uint8 0 rfl (by first | rfl | assumption | (simp; done) | (simp; omega) | omega) | exact r_loadA8 ⟨hE, hw⟩ rfl K.u_A32_uint8 rfl K.sz_A32_uint8 1 rfl (by first | rfl | assumption | (simp; done) | (simp; omega) | omega) | exact r_loadA8 ⟨hE, hw⟩ rfl K.u_A32_uint8 rfl K.sz_A32_uint8 2 rfl (by first | rfl | assumption | (simp; done) | (simp; omega) | omega) | exact r_loadA8 ⟨hE, hw⟩ rfl K.u_A32_uint8 rfl K.sz_A32_uint8 3 rfl (by first | rfl | assumption | (simp; done) | (simp; omega) | omega) | exact r_loadA8 ⟨hE, hw⟩ rfl K.u_A32_uint8 rfl K.sz_A32_uint8 4 rfl (by first | rfl | assumption | (simp; done) | (simp; omega) | omega) | exact r_loadA8 ⟨hE, hw⟩ rfl K.u_A32_uint8 rfl K.sz_A32_uint8 5 rfl (by first | rfl | assumption | (simp; done) | (simp; omega) | omega) | exact r_loadCA ⟨hE, hw⟩ rfl K.u_A32_uint8 rfl K.sz_A32_uint8 (by assumption) (by first | rfl | assumption | (simp; done) | (simp; omega) | omega)) rfl ?_
      clear hE a; intro a hE
      refine q_cG hE (by first | exact .t rfl | exact .f rfl | exact .gt rfl | exact .gf rfl) K.go_stamp_Text (fun hg => by (try simp only [gval_on hg, gval_and hg]); (have hg2 := hg; (try simp only [Bool.and_eq_true, Bool.or_eq_true, Bool.not_eq_true', decide_eq_true_eq, decide_eq_false_iff_not] at hg2)); exact ⟨_, rfl, fun w hw => stamp_Text s _ _ (by first | rfl | assumption | (simp; done) | (simp; omega) | omega) _ hw⟩) rfl ?_
      clear hE a; intro a hE
      refine qvG hE (by first | exact .t rfl | exact .f rfl | exact .gt rfl | exact .gf rfl) (fun hg w hw => by (try simp only [gval_on hg, gval_and hg] at hE); (have hg2 := hg; (try simp only [Bool.and_eq_true, Bool.or_eq_true, Bool.not_eq_true', decide_eq_true_eq, decide_eq_false_iff_not] at hg2)); first | exact r_loadA8 ⟨hE, hw⟩ rfl K.u_A32_uint8 rfl K.sz_A32_uint8 0 rfl (by first | rfl | assumption | (simp; done) | (simp; omega) | omega) | exact r_loadA8 ⟨hE, hw⟩ rfl K.u_A32_uint8 rfl K.sz_A32_uint8 1 rfl (by first | rfl | assumption | (simp; done) | (simp; omega) | omega) | exact r_loadA8 ⟨hE, hw⟩ rfl K.u_A32_uint8 rfl K.sz_A32_uint8 2 rfl (by first | rfl | assumption | (simp; done) | (simp; omega) | omega) | exact r_loadA8 ⟨hE, hw⟩ rfl K.u_A32_uint8 rfl K.sz_A32_uint8 3 rfl (by first | rfl | assumption | (simp; done) | (simp; omega) | omega) | exact r_loadA8 ⟨hE, hw⟩ rfl K.u_A32_uint8 rfl K.sz_A32_uint8 4 rfl (by first | rfl | assumption | (simp; done) | (simp; omega) | omega) | exact r_loadA8 ⟨hE, hw⟩ rfl K.u_A32_uint8 rfl K.sz_A32_uint8 5 rfl (by first | rfl | assumption | (simp; done) | (simp; omega) | omega) | exact r_loadCA ⟨hE, hw⟩ rfl K.u_A32_uint8 rfl K.sz_A32_uint8 (by assumption) (by first | rfl | assumption | (simp; done) | (simp; omega) | omega)) rfl ?_
      clear hE a; intro a hE
      refine q_cG hE (by first | exact .t rfl | exact .f rfl | exact .gt rfl | exact .gf rfl) K.go_stamp_Text (fun hg => by (try simp only [gval_on hg, gval_and hg]); (have hg2 := hg; (try simp only [Bool.and_eq_true, Bool.or_eq_true, Bool.not_eq_true', decide_eq_true_eq, decide_eq_false_iff_not] at hg2)); exact ⟨_, rfl, fun w hw => stamp_Text s _ _ (by first | rfl | assumption | (simp; done) | (simp; omega) | omega) _ hw⟩) rfl ?_
      clear hE a; intro a hE
      refine qvG hE (by first | exact .t rfl | exact .f rfl | exact .gt rfl | exact .gf rfl) (fun hg w hw => by (try simp only [gval_on hg, gval_and hg] at hE); (have hg2 := hg; (try simp only [Bool.and_eq_true, Bool.or_eq_true, Bool.not_eq_true', decide_eq_true_eq, decide_eq_false_iff_not] at hg2)); first | exact r_strless ⟨hE, hw⟩ rfl rfl) rfl ?_
      clear hE a; intro a hE
      refine qvG hE (by first | exact .t rfl | exact .f rfl | exact .gt rfl | exact .gf rfl) (fun hg w hw => by (try simp only [gval_on hg, gval_and hg] at hE); (have hg2 := hg; (try simp only [Bool.and_eq_true, Bool.or_eq_true, Bool.not_eq_true', decide_eq_true_eq, decide_eq_false_iff_not] at hg2)); first | exact r_booleq ⟨hE, hw⟩ K.u_bool rfl rfl) rfl ?_
      clear hE a; intro a hE
      first
        | (refine qv hE (fun w hw => r_pickA ⟨hE, hw⟩ rfl rfl rfl) rfl ?_)
        | (refine qv hE (fun w hw => r_pickO ⟨hE, hw⟩ rfl rfl rfl) rfl ?_)
        | (refine qv hE (fun w hw => r_pick_true ⟨hE, hw⟩ rfl rfl) rfl ?_)
        | (refine qv hE (fun w hw => r_pick_false ⟨hE, hw⟩ rfl rfl) rfl ?_)
        | (refine qv hE (fun w hw => r_pick ⟨hE, hw⟩ rfl rfl rfl) rfl ?_)
      clear hE a; intro a hE
      refine qv hE (fun w hw => r_assign ⟨hE, hw⟩ rfl) rfl ?_
      clear hE a; intro a hE
      refine qnil hE ?_
      clear hE a; intro a w h
      refine c_then ?_
      refine c_ret ?_
      have e2 : (Op.bytesLess la z1 || Op.bytesLess z1 la || decide (la = z1)) = true := by
        by_cases q : la = z1
        · simp [q]
        · rw [bytesLess_ne la z1 (by omega) q]; cases Op.bytesLess la z1 <;> rfl
      exact ret1 h rfl rfl ⟨(), by rw [e2, bytesLess_hex la z1 (by omega)]; simp, h.2.drop 3, trivial⟩

theorem stampTexts (s w : World) (k : List UInt8) (hk : k.length = 32) (F : List HItem) (hT : HasParts F) (hF : HasFirst F) (hs : Sat s w F) :
    Calls P n_law02_StampTexts #[.agg (arr8 k)] w (Ret s (fun _ : Unit => .bool true) (fun _ => F) (fun _ => True)) := by
  have hl : (hexOf k).length = 64 := by rw [hexOf_len]; omega
  refine enter K.fn_law02_StampTexts rfl K.nt_law02_StampTexts rfl hs ?_
  clear hs w; intro a w h
  refine c_seq (c_region ?_)
  refine wl rfl (op_box h rfl rfl ?_)
  clear h a w; intro b1 a w h
  try simp only [Value.cells] at h
  refine wv h (r_assign h rfl) rfl ?_
  clear h a w; intro a w h
  refine wnil (c_then ?_)
  refine c_seq (c_region ?_)
  first
    | (refine wv h (r_loadA8 h rfl K.u_A32_uint8 rfl K.sz_A32_uint8 0 rfl (by first | rfl | assumption | (simp; done) | (simp; omega) | omega)) rfl ?_)
    | (refine wv h (r_loadA8 h rfl K.u_A32_uint8 rfl K.sz_A32_uint8 1 rfl (by first | rfl | assumption | (simp; done) | (simp; omega) | omega)) rfl ?_)
    | (refine wv h (r_loadA8 h rfl K.u_A32_uint8 rfl K.sz_A32_uint8 2 rfl (by first | rfl | assumption | (simp; done) | (simp; omega) | omega)) rfl ?_)
    | (refine wv h (r_loadA8 h rfl K.u_A32_uint8 rfl K.sz_A32_uint8 3 rfl (by first | rfl | assumption | (simp; done) | (simp; omega) | omega)) rfl ?_)
    | (refine wv h (r_loadA8 h rfl K.u_A32_uint8 rfl K.sz_A32_uint8 4 rfl (by first | rfl | assumption | (simp; done) | (simp; omega) | omega)) rfl ?_)
    | (refine wv h (r_loadA8 h rfl K.u_A32_uint8 rfl K.sz_A32_uint8 5 rfl (by first | rfl | assumption | (simp; done) | (simp; omega) | omega)) rfl ?_)
    | (refine wv h (r_loadCA h rfl K.u_A32_uint8 rfl K.sz_A32_uint8 (by assumption) (by first | rfl | assumption | (simp; done) | (simp; omega) | omega)) rfl ?_)
  clear h a w; intro a w h
  refine wl rfl (op_call h rfl K.go_stamp_Text (stamp_Text s _ _ (by first | rfl | assumption | (simp; done) | (simp; omega) | omega) _ h.2) rfl ?_)
  clear h a w; intro x a w hx h
  refine wv h (r_assign h rfl) rfl ?_
  clear h a w; intro a w h
  refine wnil (c_then ?_)
  refine c_seq ?_
  refine c_seq (c_region ?_)
  refine wv h (r_move h rfl) rfl ?_
  clear h a w; intro a w h
  refine wv h (r_lenT h rfl K.u_string) rfl ?_
  clear h a w; intro a w h
  refine wv h (r_bin h rfl rfl (B.neq_int)) rfl ?_
  clear h a w; intro a w h
  refine wnil (c_then ?_)
  first
    | refine c_condD h rfl (fun ht1 => ?_) (fun ht1 => ?_)
    | refine c_condP h rfl (by first | (simp only [Bool.and_eq_true, Bool.or_eq_true, Bool.not_eq_true', decide_eq_true_eq, decide_eq_false_iff_not, ne_eq, Bool.not_eq_eq_eq_not, Bool.not_true, beq_iff_eq, bne_iff_ne]; exact Iff.rfl) | exact Iff.rfl) (fun ht1 => ?_) (fun ht1 => ?_)
  ·
    exfalso; omega
  ·
    refine c_skip ?_
    refine c_then ?_
    refine c_seq (c_region ?_)
    refine wv h (r_assign h rfl) rfl ?_
    clear h a w; intro a w h
    refine wnil (c_then ?_)
    refine c_seq ?_
    refine c_seq (c_region ?_)
    refine wv h (r_assign h rfl) rfl ?_
    clear h a w; intro a w h
    refine wnil (c_then ?_)
    refine c_block ?_
    refine c_loopX h (X := Nat) (fun i => [(1, .pointer (some ⟨b1, 0, none⟩)), (3, sv (hexOf k)), (4, sv hexD), (5, .int .i64 (i : Int))])
      (fun _ => Blk b1 (.cells (arr8 k) t_A32_uint8) :: F) (fun i => i ≤ 32) (fun i => 32 - i) 0 (h.keep [1, 3, 4, 5]) (Nat.zero_le _) ?_
    clear h a w; intro i a w hx h
    as_aux_lemma =>
      refine c_seq ?_
      refine c_seq (c_region ?_)
      refine wv h (r_move h rfl) rfl ?_
      clear h a w; intro a w h
      refine wv h (r_bin h rfl rfl (B.lss_int)) rfl ?_
      clear h a w; intro a w h
      refine wnil (c_then ?_)
      first
        | refine c_condD h rfl (fun ht2 => ?_) (fun ht2 => ?_)
        | refine c_condP h rfl (by first | (simp only [Bool.and_eq_true, Bool.or_eq_true, Bool.not_eq_true', decide_eq_true_eq, decide_eq_false_iff_not, ne_eq, Bool.not_eq_eq_eq_not, Bool.not_true, beq_iff_eq, bne_iff_ne]; exact Iff.rfl) | exact Iff.rfl) (fun ht2 => ?_) (fun ht2 => ?_)
      ·
        obtain ⟨x, hx0⟩ : ∃ x, k[i]? = some x := ⟨k[i]'(by omega), by simp⟩
        have hxd : k.getD i 0 = x := by rw [List.getD_eq_getElem?_getD, hx0]; rfl
        obtain ⟨hg1, hg2⟩ := hexOf_get x k i hx0
        have hxl := x.toNat_lt
        have hq : (x / 16).toNat = x.toNat / 16 := by rw [UInt8.toNat_div]; rfl
        have hr : (x % 16).toNat = x.toNat % 16 := by rw [UInt8.toNat_mod]; rfl
        have hdl : hexD.length = 16 := rfl
        refine c_skip ?_
        refine c_then ?_
        refine c_seq ?_
        refine c_block ?_
        refine c_seq (c_draw K.mixed (by kernel_rfl) h ?_)
        clear h a w; intro a hE
        refine qv hE (fun w hw => r_move ⟨hE, hw⟩ rfl) rfl ?_
        clear hE a; intro a hE
        refine qv hE (fun w hw => r_move ⟨hE, hw⟩ rfl) rfl ?_
        clear hE a; intro a hE
        refine qv hE (fun w hw => r_bin ⟨hE, hw⟩ rfl rfl (B.mul_i64 (by omega) (by omega))) rfl ?_
        clear hE a; intro a hE
        refine qv hE (fun w hw => r_ixT ⟨hE, hw⟩ rfl rfl K.u_string (by omega) (by first | omega | (simp only [List.length_cons, List.length_nil]; omega) | (simp; omega))) rfl ?_
        clear hE a; intro a hE
        refine qv hE (fun w hw => r_move ⟨hE, hw⟩ rfl) rfl ?_
        clear hE a; intro a hE
        refine qv hE (fun w hw => r_move ⟨hE, hw⟩ rfl) rfl ?_
        clear hE a; intro a hE
        refine qv hE (fun w hw => r_arP ⟨hE, hw⟩ rfl rfl K.u_A32_uint8 K.sz_uint8 (by omega) (by first | omega | (simp only [List.length_cons, List.length_nil]; omega) | (simp; omega))) rfl ?_
        clear hE a; intro a hE
        first
          | (refine qv hE (fun w hw => r_ar8 ⟨hE, hw⟩ rfl K.u_uint8 rfl 0 rfl (by first | omega | (simp only [List.length_cons, List.length_nil]; omega) | (simp; omega))) rfl ?_)
          | (refine qv hE (fun w hw => r_ar8 ⟨hE, hw⟩ rfl K.u_uint8 rfl 1 rfl (by first | omega | (simp only [List.length_cons, List.length_nil]; omega) | (simp; omega))) rfl ?_)
          | (refine qv hE (fun w hw => r_ar8 ⟨hE, hw⟩ rfl K.u_uint8 rfl 2 rfl (by first | omega | (simp only [List.length_cons, List.length_nil]; omega) | (simp; omega))) rfl ?_)
          | (refine qv hE (fun w hw => r_ar8 ⟨hE, hw⟩ rfl K.u_uint8 rfl 3 rfl (by first | omega | (simp only [List.length_cons, List.length_nil]; omega) | (simp; omega))) rfl ?_)
          | (refine qv hE (fun w hw => r_ar8 ⟨hE, hw⟩ rfl K.u_uint8 rfl 4 rfl (by first | omega | (simp only [List.length_cons, List.length_nil]; omega) | (simp; omega))) rfl ?_)
          | (refine qv hE (fun w hw => r_ar8 ⟨hE, hw⟩ rfl K.u_uint8 rfl 5 rfl (by first | omega | (simp only [List.length_cons, List.length_nil]; omega) | (simp; omega))) rfl ?_)
        clear hE a; intro a hE
        rw [hxd] at hE
        refine qv hE (fun w hw => r_bin ⟨hE, hw⟩ rfl rfl (B.quo_u8 (y := 16) (by decide))) rfl ?_
        clear hE a; intro a hE
        refine qv hE (fun w hw => r_ixT ⟨hE, hw⟩ rfl rfl K.u_string (by omega) (by first | omega | (simp only [List.length_cons, List.length_nil]; omega) | (simp; omega))) rfl ?_
        clear hE a; intro a hE
        refine qv hE (fun w hw => r_bin ⟨hE, hw⟩ rfl rfl (B.neq_u8)) rfl ?_
        clear hE a; intro a hE
        refine qv hE (fun w hw => r_move ⟨hE, hw⟩ rfl) rfl ?_
        clear hE a; intro a hE
        refine qvG hE (by first | exact .t rfl | exact .f rfl | exact .gt rfl | exact .gf rfl) (fun hg w hw => by (try simp only [gval_on hg, gval_and hg] at hE); (have hg2 := hg; (try simp only [Bool.and_eq_true, Bool.or_eq_true, Bool.not_eq_true', decide_eq_true_eq, decide_eq_false_iff_not] at hg2)); first | exact r_move ⟨hE, hw⟩ rfl) rfl ?_
        clear hE a; intro a hE
        refine qvG hE (by first | exact .t rfl | exact .f rfl | exact .gt rfl | exact .gf rfl) (fun hg w hw => by (try simp only [gval_on hg, gval_and hg] at hE); (have hg2 := hg; (try simp only [Bool.and_eq_true, Bool.or_eq_true, Bool.not_eq_true', decide_eq_true_eq, decide_eq_false_iff_not] at hg2)); first | exact r_move ⟨hE, hw⟩ rfl) rfl ?_
        clear hE a; intro a hE
        refine qvG hE (by first | exact .t rfl | exact .f rfl | exact .gt rfl | exact .gf rfl) (fun hg w hw => by (try simp only [gval_on hg, gval_and hg] at hE); (have hg2 := hg; (try simp only [Bool.and_eq_true, Bool.or_eq_true, Bool.not_eq_true', decide_eq_true_eq, decide_eq_false_iff_not] at hg2)); first | exact r_bin ⟨hE, hw⟩ rfl rfl (B.mul_i64 (by omega) (by omega))) rfl ?_
        clear hE a; intro a hE
        refine qvG hE (by first | exact .t rfl | exact .f rfl | exact .gt rfl | exact .gf rfl) (fun hg w hw => by (try simp only [gval_on hg, gval_and hg] at hE); (have hg2 := hg; (try simp only [Bool.and_eq_true, Bool.or_eq_true, Bool.not_eq_true', decide_eq_true_eq, decide_eq_false_iff_not] at hg2)); first | exact r_bin ⟨hE, hw⟩ rfl rfl (B.add_i64 (by omega) (by omega))) rfl ?_
        clear hE a; intro a hE
        refine qvG hE (by first | exact .t rfl | exact .f rfl | exact .gt rfl | exact .gf rfl) (fun hg w hw => by (try simp only [gval_on hg, gval_and hg] at hE); (have hg2 := hg; (try simp only [Bool.and_eq_true, Bool.or_eq_true, Bool.not_eq_true', decide_eq_true_eq, decide_eq_false_iff_not] at hg2)); first | exact r_ixT ⟨hE, hw⟩ rfl rfl K.u_string (by omega) (by first | omega | (simp only [List.length_cons, List.length_nil]; omega) | (simp; omega))) rfl ?_
        clear hE a; intro a hE
        refine qvG hE (by first | exact .t rfl | exact .f rfl | exact .gt rfl | exact .gf rfl) (fun hg w hw => by (try simp only [gval_on hg, gval_and hg] at hE); (have hg2 := hg; (try simp only [Bool.and_eq_true, Bool.or_eq_true, Bool.not_eq_true', decide_eq_true_eq, decide_eq_false_iff_not] at hg2)); first | exact r_move ⟨hE, hw⟩ rfl) rfl ?_
        clear hE a; intro a hE
        refine qvG hE (by first | exact .t rfl | exact .f rfl | exact .gt rfl | exact .gf rfl) (fun hg w hw => by (try simp only [gval_on hg, gval_and hg] at hE); (have hg2 := hg; (try simp only [Bool.and_eq_true, Bool.or_eq_true, Bool.not_eq_true', decide_eq_true_eq, decide_eq_false_iff_not] at hg2)); first | exact r_move ⟨hE, hw⟩ rfl) rfl ?_
        clear hE a; intro a hE
        refine qvG hE (by first | exact .t rfl | exact .f rfl | exact .gt rfl | exact .gf rfl) (fun hg w hw => by (try simp only [gval_on hg, gval_and hg] at hE); (have hg2 := hg; (try simp only [Bool.and_eq_true, Bool.or_eq_true, Bool.not_eq_true', decide_eq_true_eq, decide_eq_false_iff_not] at hg2)); first | exact r_arP ⟨hE, hw⟩ rfl rfl K.u_A32_uint8 K.sz_uint8 (by omega) (by first | omega | (simp only [List.length_cons, List.length_nil]; omega) | (simp; omega))) rfl ?_
        clear hE a; intro a hE
        refine qvG hE (by first | exact .t rfl | exact .f rfl | exact .gt rfl | exact .gf rfl) (fun hg w hw => by (try simp only [gval_on hg, gval_and hg] at hE); (have hg2 := hg; (try simp only [Bool.and_eq_true, Bool.or_eq_true, Bool.not_eq_true', decide_eq_true_eq, decide_eq_false_iff_not] at hg2)); first | exact r_ar8 ⟨hE, hw⟩ rfl K.u_uint8 rfl 0 rfl (by first | omega | (simp only [List.length_cons, List.length_nil]; omega) | (simp; omega)) | exact r_ar8 ⟨hE, hw⟩ rfl K.u_uint8 rfl 1 rfl (by first | omega | (simp only [List.length_cons, List.length_nil]; omega) | (simp; omega)) | exact r_ar8 ⟨hE, hw⟩ rfl K.u_uint8 rfl 2 rfl (by first | omega | (simp only [List.length_cons, List.length_nil]; omega) | (simp; omega)) | exact r_ar8 ⟨hE, hw⟩ rfl K.u_uint8 rfl 3 rfl (by first | omega | (simp only [List.length_cons, List.length_nil]; omega) | (simp; omega)) | exact r_ar8 ⟨hE, hw⟩ rfl K.u_uint8 rfl 4 rfl (by first | omega | (simp only [List.length_cons, List.length_nil]; omega) | (simp; omega)) | exact r_ar8 ⟨hE, hw⟩ rfl K.u_uint8 rfl 5 rfl (by first | omega | (simp only [List.length_cons, List.length_nil]; omega) | (simp; omega))) rfl ?_
        clear hE a; intro a hE
        rw [hxd] at hE
        refine qvG hE (by first | exact .t rfl | exact .f rfl | exact .gt rfl | exact .gf rfl) (fun hg w hw => by (try simp only [gval_on hg, gval_and hg] at hE); (have hg2 := hg; (try simp only [Bool.and_eq_true, Bool.or_eq_true, Bool.not_eq_true', decide_eq_true_eq, decide_eq_false_iff_not] at hg2)); first | exact r_bin ⟨hE, hw⟩ rfl rfl (B.rem_u8 (y := 16) (by decide))) rfl ?_
        clear hE a; intro a hE
        refine qvG hE (by first | exact .t rfl | exact .f rfl | exact .gt rfl | exact .gf rfl) (fun hg w hw => by (try simp only [gval_on hg, gval_and hg] at hE); (have hg2 := hg; (try simp only [Bool.and_eq_true, Bool.or_eq_true, Bool.not_eq_true', decide_eq_true_eq, decide_eq_false_iff_not] at hg2)); first | exact r_ixT ⟨hE, hw⟩ rfl rfl K.u_string (by omega) (by first | omega | (simp only [List.length_cons, List.length_nil]; omega) | (simp; omega))) rfl ?_
        clear hE a; intro a hE
        refine qvG hE (by first | exact .t rfl | exact .f rfl | exact .gt rfl | exact .gf rfl) (fun hg w hw => by (try simp only [gval_on hg, gval_and hg] at hE); (have hg2 := hg; (try simp only [Bool.and_eq_true, Bool.or_eq_true, Bool.not_eq_true', decide_eq_true_eq, decide_eq_false_iff_not] at hg2)); first | exact r_bin ⟨hE, hw⟩ rfl rfl (B.neq_u8)) rfl ?_
        clear hE a; intro a hE
        first
          | (refine qv hE (fun w hw => r_pickA ⟨hE, hw⟩ rfl rfl rfl) rfl ?_)
          | (refine qv hE (fun w hw => r_pickO ⟨hE, hw⟩ rfl rfl rfl) rfl ?_)
          | (refine qv hE (fun w hw => r_pick_true ⟨hE, hw⟩ rfl rfl) rfl ?_)
          | (refine qv hE (fun w hw => r_pick_false ⟨hE, hw⟩ rfl rfl) rfl ?_)
          | (refine qv hE (fun w hw => r_pick ⟨hE, hw⟩ rfl rfl rfl) rfl ?_)
        clear hE a; intro a hE
        refine qnil hE ?_
        clear hE a; intro a w h
        refine c_then ?_
        first
          | refine c_condD h rfl (fun ht3 => ?_) (fun ht3 => ?_)
          | refine c_condP h rfl (by first | (simp only [Bool.and_eq_true, Bool.or_eq_true, Bool.not_eq_true', decide_eq_true_eq, decide_eq_false_iff_not, ne_eq, Bool.not_eq_eq_eq_not, Bool.not_true, beq_iff_eq, bne_iff_ne]; exact Iff.rfl) | exact Iff.rfl) (fun ht3 => ?_) (fun ht3 => ?_)
        ·
          exfalso
          rw [hq, hr, hg1, hg2] at ht3
          simp at ht3
        ·
          refine c_skip ?_
          refine b_normal ?_
          refine c_then ?_
          refine c_region ?_
          refine wv h (r_move h rfl) rfl ?_
          clear h a w; intro a w h
          refine wv h (r_bin h rfl rfl (B.add_i64 (by omega) (by omega))) rfl ?_
          clear h a w; intro a w h
          refine wv h (r_assign h rfl) rfl ?_
          clear h a w; intro a w h
          refine wnil ?_
          exact ⟨i + 1, h.keep [1, 3, 4, 5], (by show i + 1 ≤ 32; omega), by show 32 - (i + 1) < 32 - i; omega⟩
      ·
        refine c_exit ?_
        refine e_then ?_
        refine e_then ?_
        refine e_here ?_
        refine c_then ?_
        refine c_seq (c_region ?_)
        refine wv h (r_move h rfl) rfl ?_
        clear h a w; intro a w h
        refine wl rfl (op_call h rfl K.go_stamp_Read (stamp_Read s _ _ _ h.2) rfl ?_)
        clear h a w; intro x a w hx h
        rw [hexOk_hexOf k hk, if_pos rfl, unhex_hexOf] at h
        refine wv h (r_move h rfl) rfl ?_
        clear h a w; intro a w h
        refine wv h (r_extract h rfl rfl) rfl ?_
        clear h a w; intro a w h
        refine wv h (r_extract h rfl rfl) rfl ?_
        clear h a w; intro a w h
        refine wl rfl (op_alloc h K.z_api_Key rfl ?_)
        clear h a w; intro b6 a w h
        rw [show (Value.agg (Array.replicate 32 (Value.int .u8 0))).cells = arr8 (List.replicate 32 0) from (arr8_zero 32).symm] at h
        first
          | (refine wl rfl (op_storeA8 h rfl rfl K.sz_api_Key (by first | rfl | assumption | (simp; done) | (simp; omega) | omega) 0 rfl (by first | rfl | (simp [arr8]; done) | (simp [arr8]; omega) | (simp [arr8]; assumption)) ?_))
          | (refine wl rfl (op_storeA8 h rfl rfl K.sz_api_Key (by first | rfl | assumption | (simp; done) | (simp; omega) | omega) 1 rfl (by first | rfl | (simp [arr8]; done) | (simp [arr8]; omega) | (simp [arr8]; assumption)) ?_))
          | (refine wl rfl (op_storeA8 h rfl rfl K.sz_api_Key (by first | rfl | assumption | (simp; done) | (simp; omega) | omega) 2 rfl (by first | rfl | (simp [arr8]; done) | (simp [arr8]; omega) | (simp [arr8]; assumption)) ?_))
          | (refine wl rfl (op_storeA8 h rfl rfl K.sz_api_Key (by first | rfl | assumption | (simp; done) | (simp; omega) | omega) 3 rfl (by first | rfl | (simp [arr8]; done) | (simp [arr8]; omega) | (simp [arr8]; assumption)) ?_))
          | (refine wl rfl (op_storeA8 h rfl rfl K.sz_api_Key (by first | rfl | assumption | (simp; done) | (simp; omega) | omega) 4 rfl (by first | rfl | (simp [arr8]; done) | (simp [arr8]; omega) | (simp [arr8]; assumption)) ?_))
          | (refine wl rfl (op_storeA8 h rfl rfl K.sz_api_Key (by first | rfl | assumption | (simp; done) | (simp; omega) | omega) 5 rfl (by first | rfl | (simp [arr8]; done) | (simp [arr8]; omega) | (simp [arr8]; assumption)) ?_))
        clear h a w; intro a w h
        (try simp only [List.set_cons_zero, List.set_cons_succ] at h)
        refine wv h (r_assign h rfl) rfl ?_
        clear h a w; intro a w h
        refine wnil (c_then ?_)
        refine c_seq (c_region ?_)
        refine wl rfl (op_call h rfl K.go_law02_awake (law02_awake s _ _ (by first | assumption | exact CellsAt.cons (by assumption) _ | exact CellsAt.cons (CellsAt.cons (by assumption) _) _ | exact CellsAt.cons (CellsAt.cons (CellsAt.cons (by assumption) _) _) _ | exact CellsAt.cons (CellsAt.cons (CellsAt.cons (CellsAt.cons (by assumption) _) _) _) _) (by first | assumption | exact CellsAt.cons (by assumption) _ | exact CellsAt.cons (CellsAt.cons (by assumption) _) _ | exact CellsAt.cons (CellsAt.cons (CellsAt.cons (by assumption) _) _) _ | exact CellsAt.cons (CellsAt.cons (CellsAt.cons (CellsAt.cons (by assumption) _) _) _) _) h.2) rfl ?_)
        clear h a w; intro x a w hx h
        refine wv h (r_move h rfl) rfl ?_
        clear h a w; intro a w h
        refine wvG h (by first | exact .t rfl | exact .f rfl | exact .gt rfl | exact .gf rfl) (fun hg => by (try simp only [gval_on hg, gval_and hg] at h); (have hg2 := hg; (try simp only [Bool.and_eq_true, Bool.or_eq_true, Bool.not_eq_true', decide_eq_true_eq, decide_eq_false_iff_not] at hg2)); first | exact r_move h rfl) rfl ?_
        clear h a w; intro a w h
        first
          | (refine wv h (r_pickA h rfl rfl rfl) rfl ?_)
          | (refine wv h (r_pickO h rfl rfl rfl) rfl ?_)
          | (refine wv h (r_pick_true h rfl rfl) rfl ?_)
          | (refine wv h (r_pick_false h rfl rfl) rfl ?_)
          | (refine wv h (r_pick h rfl rfl rfl) rfl ?_)
        clear h a w; intro a w h
        refine wv h (r_move h rfl) rfl ?_
        clear h a w; intro a w h
        refine wvG h (by first | exact .t rfl | exact .f rfl | exact .gt rfl | exact .gf rfl) (fun hg => by (try simp only [gval_on hg, gval_and hg] at h); (have hg2 := hg; (try simp only [Bool.and_eq_true, Bool.or_eq_true, Bool.not_eq_true', decide_eq_true_eq, decide_eq_false_iff_not] at hg2)); first | exact r_loadA8 h rfl K.u_api_Key rfl K.sz_api_Key 0 rfl (by first | rfl | assumption | (simp; done) | (simp; omega) | omega) | exact r_loadA8 h rfl K.u_api_Key rfl K.sz_api_Key 1 rfl (by first | rfl | assumption | (simp; done) | (simp; omega) | omega) | exact r_loadA8 h rfl K.u_api_Key rfl K.sz_api_Key 2 rfl (by first | rfl | assumption | (simp; done) | (simp; omega) | omega) | exact r_loadA8 h rfl K.u_api_Key rfl K.sz_api_Key 3 rfl (by first | rfl | assumption | (simp; done) | (simp; omega) | omega) | exact r_loadA8 h rfl K.u_api_Key rfl K.sz_api_Key 4 rfl (by first | rfl | assumption | (simp; done) | (simp; omega) | omega) | exact r_loadA8 h rfl K.u_api_Key rfl K.sz_api_Key 5 rfl (by first | rfl | assumption | (simp; done) | (simp; omega) | omega) | exact r_loadCA h rfl K.u_api_Key rfl K.sz_api_Key (by assumption) (by first | rfl | assumption | (simp; done) | (simp; omega) | omega)) rfl ?_
        clear h a w; intro a w h
        refine wvG h (by first | exact .t rfl | exact .f rfl | exact .gt rfl | exact .gf rfl) (fun hg => by (try simp only [gval_on hg, gval_and hg] at h); (have hg2 := hg; (try simp only [Bool.and_eq_true, Bool.or_eq_true, Bool.not_eq_true', decide_eq_true_eq, decide_eq_false_iff_not] at hg2)); first | exact r_loadA8 h rfl K.u_A32_uint8 rfl K.sz_A32_uint8 0 rfl (by first | rfl | assumption | (simp; done) | (simp; omega) | omega) | exact r_loadA8 h rfl K.u_A32_uint8 rfl K.sz_A32_uint8 1 rfl (by first | rfl | assumption | (simp; done) | (simp; omega) | omega) | exact r_loadA8 h rfl K.u_A32_uint8 rfl K.sz_A32_uint8 2 rfl (by first | rfl | assumption | (simp; done) | (simp; omega) | omega) | exact r_loadA8 h rfl K.u_A32_uint8 rfl K.sz_A32_uint8 3 rfl (by first | rfl | assumption | (simp; done) | (simp; omega) | omega) | exact r_loadA8 h rfl K.u_A32_uint8 rfl K.sz_A32_uint8 4 rfl (by first | rfl | assumption | (simp; done) | (simp; omega) | omega) | exact r_loadA8 h rfl K.u_A32_uint8 rfl K.sz_A32_uint8 5 rfl (by first | rfl | assumption | (simp; done) | (simp; omega) | omega) | exact r_loadCA h rfl K.u_A32_uint8 rfl K.sz_A32_uint8 (by assumption) (by first | rfl | assumption | (simp; done) | (simp; omega) | omega)) rfl ?_
        clear h a w; intro a w h
        refine wvG h (by first | exact .t rfl | exact .f rfl | exact .gt rfl | exact .gf rfl) (fun hg => by (try simp only [gval_on hg, gval_and hg] at h); (have hg2 := hg; (try simp only [Bool.and_eq_true, Bool.or_eq_true, Bool.not_eq_true', decide_eq_true_eq, decide_eq_false_iff_not] at hg2)); first | exact r_arreq h rfl rfl K.u_api_Key K.u_uint8 K.sz_uint8 (by kernel_rfl) (by first | rfl | assumption | (simp; done) | (simp; omega) | omega) (by first | rfl | assumption | (simp; done) | (simp; omega) | omega)) rfl ?_
        clear h a w; intro a w h
        first
          | (refine wv h (r_pickA h rfl rfl rfl) rfl ?_)
          | (refine wv h (r_pickO h rfl rfl rfl) rfl ?_)
          | (refine wv h (r_pick_true h rfl rfl) rfl ?_)
          | (refine wv h (r_pick_false h rfl rfl) rfl ?_)
          | (refine wv h (r_pick h rfl rfl rfl) rfl ?_)
        clear h a w; intro a w h
        refine wv h (r_assign h rfl) rfl ?_
        clear h a w; intro a w h
        refine wnil (c_then ?_)
        refine c_ret ?_
        exact ret1 h rfl rfl ⟨(), by simp, h.2.drop 2, trivial⟩
end Go.Proofs.K
