/- The laws of layer 11, walked: each rule by a chart that breaks it alone; states in one another. -/
import Derived.Test.YtckdkncmkpoghaaRulesc
set_option linter.unusedVariables false
set_option linter.unusedSimpArgs false
set_option maxRecDepth 10000
set_option maxHeartbeats 2000000
namespace Go.Proofs.K
open Go.Sl
attribute [local irreducible] Go.Sl.Own Go.Sl.Blk Go.Sl.Sep Go.Sl.Ex Go.Sl.Fact

def oneS : List El := [⟨1, 1, 0, 0, [97], 0, 0, [], [], []⟩, ⟨2, 1, 1, 0, [98], 0, 0, [], [], []⟩, ⟨3, 4, 0, 0, [], 0, 0, [], [], []⟩, ⟨4, 5, 0, 0, [], 1, 3, [101], [], []⟩]
abbrev fC (a b : Int) : Array Value := ⟨[.int .i64 a, .int .i64 b]⟩
theorem rulesOne (s w : World) (how : UInt8) (F : List HItem) (hs : Sat s w F) :
    Calls P n_law11_RulesOne #[bv how] w (Ret s (fun _ : Unit => .bool true) (fun _ => F) (fun _ => True)) := by
  have hol : oneS.length = 4 := rfl
  refine enter K.fn_law11_RulesOne rfl K.nt_law11_RulesOne rfl hs ?_
  clear hs w; intro a w h
  refine c_seq (c_region ?_)
  refine wv h (r_assign h rfl) rfl ?_
  clear h a w; intro a w h
  refine wnil (c_then ?_)
  refine c_seq (c_region ?_)
  refine wv h (r_build (cells := ⟨cellsE (oneS.getD 0 default)⟩) h K.u_api_Elem K.z_api_Elem K.pl_api_Elem rfl (by kernel_rfl)) rfl ?_
  clear h a w; intro a w h
  refine wv h (r_build (cells := ⟨cellsE (oneS.getD 1 default)⟩) h K.u_api_Elem K.z_api_Elem K.pl_api_Elem rfl (by kernel_rfl)) rfl ?_
  clear h a w; intro a w h
  refine wv h (r_build (cells := ⟨cellsE (oneS.getD 2 default)⟩) h K.u_api_Elem K.z_api_Elem K.pl_api_Elem rfl (by kernel_rfl)) rfl ?_
  clear h a w; intro a w h
  refine wv h (r_build (cells := ⟨cellsE (oneS.getD 3 default)⟩) h K.u_api_Elem K.z_api_Elem K.pl_api_Elem rfl (by kernel_rfl)) rfl ?_
  clear h a w; intro a w h
  refine wl rfl (op_buildSlice (cells := oneS.flatMap cellsE) h K.u_api_Chart K.sz_api_Elem K.z_api_Elem rfl rfl rfl rfl rfl (by intro v hv; simp only [List.mem_cons, List.not_mem_nil, or_false] at hv; rcases hv with rfl | rfl | rfl | rfl <;> rfl) rfl ?_)
  clear h a w; intro b9 a w h
  replace h := h.toOwnM (size := 10) (cells := cellsE) (N := 4) oneS (NF.zero _) rfl rfl rfl
  obtain ⟨v9, hv9⟩ : ∃ v : Value, v = .slice (some ⟨b9, 0, none⟩) 4 4 := ⟨_, rfl⟩
  rw [← hv9] at h
  refine wv h (r_assign h rfl) rfl ?_
  clear h a w; intro a w h
  refine wnil (c_then ?_)
  refine c_seq (c_region ?_)
  refine wv h (r_build (cells := fC 0 0) h K.u_api_Fault K.z_api_Fault K.pl_api_Fault rfl (by kernel_rfl)) rfl ?_
  clear h a w; intro a w h
  refine wl rfl (op_alloc h K.z_api_Fault rfl ?_)
  clear h a w; intro b4 a w h
  first
    | (refine wl rfl (op_stA h rfl rfl K.sz_api_Fault (by first | exact Row.len _ | rfl | assumption | (simp; done) | (simp; omega) | omega) (by first | exact Row.one _ | exact bs_one _ | assumption | (simp; done) | (simp; (repeat' apply And.intro) <;> first | rfl | assumption)) 0 rfl (by first | rfl | assumption | (simp; done) | (simp; omega) | omega) ?_))
    | (refine wl rfl (op_stA h rfl rfl K.sz_api_Fault (by first | exact Row.len _ | rfl | assumption | (simp; done) | (simp; omega) | omega) (by first | exact Row.one _ | exact bs_one _ | assumption | (simp; done) | (simp; (repeat' apply And.intro) <;> first | rfl | assumption)) 1 rfl (by first | rfl | assumption | (simp; done) | (simp; omega) | omega) ?_))
    | (refine wl rfl (op_stA h rfl rfl K.sz_api_Fault (by first | exact Row.len _ | rfl | assumption | (simp; done) | (simp; omega) | omega) (by first | exact Row.one _ | exact bs_one _ | assumption | (simp; done) | (simp; (repeat' apply And.intro) <;> first | rfl | assumption)) 2 rfl (by first | rfl | assumption | (simp; done) | (simp; omega) | omega) ?_))
    | (refine wl rfl (op_stA h rfl rfl K.sz_api_Fault (by first | exact Row.len _ | rfl | assumption | (simp; done) | (simp; omega) | omega) (by first | exact Row.one _ | exact bs_one _ | assumption | (simp; done) | (simp; (repeat' apply And.intro) <;> first | rfl | assumption)) 3 rfl (by first | rfl | assumption | (simp; done) | (simp; omega) | omega) ?_))
    | (refine wl rfl (op_stA h rfl rfl K.sz_api_Fault (by first | exact Row.len _ | rfl | assumption | (simp; done) | (simp; omega) | omega) (by first | exact Row.one _ | exact bs_one _ | assumption | (simp; done) | (simp; (repeat' apply And.intro) <;> first | rfl | assumption)) 4 rfl (by first | rfl | assumption | (simp; done) | (simp; omega) | omega) ?_))
    | (refine wl rfl (op_stA h rfl rfl K.sz_api_Fault (by first | exact Row.len _ | rfl | assumption | (simp; done) | (simp; omega) | omega) (by first | exact Row.one _ | exact bs_one _ | assumption | (simp; done) | (simp; (repeat' apply And.intro) <;> first | rfl | assumption)) 5 rfl (by first | rfl | assumption | (simp; done) | (simp; omega) | omega) ?_))
  clear h a w; intro a w h
  (try simp only [List.set_cons_zero, List.set_cons_succ] at h)
  refine wnil (c_then ?_)
  refine c_meet h (X := Value × List El × Int × Int) (fun x => [(3, x.1), (4, .pointer (some ⟨b4, 0, none⟩))]) (fun x => Blk b4 (.cells (fC x.2.2.1 x.2.2.2) t_api_Fault) :: OwnM 10 cellsE x.1 x.2.1 :: F) (fun x => checkR x.2.1 = (x.2.2.1, x.2.2.2)) ?_ ?_
  ·
   refine c_seq (c_region ?_)
   refine wv h (r_move h rfl) rfl ?_
   clear h a w; intro a w h
   refine wv h (r_bin h rfl rfl (B.rem_u8 (y := 8) (by decide))) rfl ?_
   clear h a w; intro a w h
   refine wnil (c_then ?_)
   refine c_block ?_
   refine c_seq (c_region ?_)
   refine wv h (r_bin h rfl rfl (B.eql_u8 (y := 1))) rfl ?_
   clear h a w; intro a w h
   refine wv h (r_assign h rfl) rfl ?_
   clear h a w; intro a w h
   refine wnil (c_then ?_)
   first
    | refine c_condD h rfl (fun ht1 => ?_) (fun ht1 => ?_)
    | refine c_condP h rfl (by first | (simp only [Bool.and_eq_true, Bool.or_eq_true, Bool.not_eq_true', decide_eq_true_eq, decide_eq_false_iff_not, ne_eq, Bool.not_eq_eq_eq_not, Bool.not_true, beq_iff_eq, bne_iff_ne]; exact Iff.rfl) | exact Iff.rfl) (fun ht1 => ?_) (fun ht1 => ?_)
   ·
    as_aux_lemma =>
     refine c_seq (c_region ?_)
     refine wv h (r_move h rfl) rfl ?_
     clear h a w; intro a w h
     refine wv h (r_elP h rfl rfl K.u_api_Chart K.sz_api_Elem (by first | exact Views.own 0 rfl | exact Views.own 1 rfl | exact Views.own 2 rfl | exact Views.own 3 rfl | exact Views.own 4 rfl | exact Views.own 5 rfl | assumption | exact Views.of_drop 1 (by assumption) | exact Views.of_drop 2 (by assumption) | exact Views.of_drop 3 (by assumption) | exact Views.of_drop 4 (by assumption) | exact Views.of_drop 5 (by assumption) | exact Views.of_drop 6 (by assumption) | exact Views.of_drop 7 (by assumption) | exact Views.of_drop 8 (by assumption) | exact Views.of_drop 9 (by assumption) | exact Views.of_drop 10 (by assumption) | exact Views.of_drop 11 (by assumption) | exact Views.of_drop 12 (by assumption)) (by first | omega | (simp; done)) (by first | omega | (simp only [List.length_cons, List.length_nil]; omega) | (simp; done) | (simp; omega))) rfl ?_
     clear h a w; intro a w h
     refine wv h (r_elF h 1 rfl K.u_api_Elem rfl K.sz_uint8 rfl rfl (by first | exact Views.own 0 rfl | exact Views.own 1 rfl | exact Views.own 2 rfl | exact Views.own 3 rfl | exact Views.own 4 rfl | exact Views.own 5 rfl | assumption | exact Views.of_drop 1 (by assumption) | exact Views.of_drop 2 (by assumption) | exact Views.of_drop 3 (by assumption) | exact Views.of_drop 4 (by assumption) | exact Views.of_drop 5 (by assumption) | exact Views.of_drop 6 (by assumption) | exact Views.of_drop 7 (by assumption) | exact Views.of_drop 8 (by assumption) | exact Views.of_drop 9 (by assumption) | exact Views.of_drop 10 (by assumption) | exact Views.of_drop 11 (by assumption) | exact Views.of_drop 12 (by assumption)) (by first | omega | (simp only [List.length_cons, List.length_nil]; omega) | (simp; done) | (simp; omega))) rfl ?_
     clear h a w; intro a w h
     refine wl rfl (op_storeRf (cells := cellsE) (l := oneS) h ⟨3, 6, 0, 0, [], 0, 0, [], [], []⟩ rfl rfl K.sz_uint8 rfl rfl (by decide) rfl 1 rfl ?_)
     clear h a w; intro a w h
     refine wnil (c_then ?_)
     refine c_region ?_
     refine wv h (r_build (cells := fC 2 3) h K.u_api_Fault K.z_api_Fault K.pl_api_Fault rfl (by kernel_rfl)) rfl ?_
     clear h a w; intro a w h
     first
          | (refine wl rfl (op_stA h rfl rfl K.sz_api_Fault (by first | exact Row.len _ | rfl | assumption | (simp; done) | (simp; omega) | omega) (by first | exact Row.one _ | exact bs_one _ | assumption | (simp; done) | (simp; (repeat' apply And.intro) <;> first | rfl | assumption)) 0 rfl (by first | rfl | assumption | (simp; done) | (simp; omega) | omega) ?_))
          | (refine wl rfl (op_stA h rfl rfl K.sz_api_Fault (by first | exact Row.len _ | rfl | assumption | (simp; done) | (simp; omega) | omega) (by first | exact Row.one _ | exact bs_one _ | assumption | (simp; done) | (simp; (repeat' apply And.intro) <;> first | rfl | assumption)) 1 rfl (by first | rfl | assumption | (simp; done) | (simp; omega) | omega) ?_))
          | (refine wl rfl (op_stA h rfl rfl K.sz_api_Fault (by first | exact Row.len _ | rfl | assumption | (simp; done) | (simp; omega) | omega) (by first | exact Row.one _ | exact bs_one _ | assumption | (simp; done) | (simp; (repeat' apply And.intro) <;> first | rfl | assumption)) 2 rfl (by first | rfl | assumption | (simp; done) | (simp; omega) | omega) ?_))
          | (refine wl rfl (op_stA h rfl rfl K.sz_api_Fault (by first | exact Row.len _ | rfl | assumption | (simp; done) | (simp; omega) | omega) (by first | exact Row.one _ | exact bs_one _ | assumption | (simp; done) | (simp; (repeat' apply And.intro) <;> first | rfl | assumption)) 3 rfl (by first | rfl | assumption | (simp; done) | (simp; omega) | omega) ?_))
          | (refine wl rfl (op_stA h rfl rfl K.sz_api_Fault (by first | exact Row.len _ | rfl | assumption | (simp; done) | (simp; omega) | omega) (by first | exact Row.one _ | exact bs_one _ | assumption | (simp; done) | (simp; (repeat' apply And.intro) <;> first | rfl | assumption)) 4 rfl (by first | rfl | assumption | (simp; done) | (simp; omega) | omega) ?_))
          | (refine wl rfl (op_stA h rfl rfl K.sz_api_Fault (by first | exact Row.len _ | rfl | assumption | (simp; done) | (simp; omega) | omega) (by first | exact Row.one _ | exact bs_one _ | assumption | (simp; done) | (simp; (repeat' apply And.intro) <;> first | rfl | assumption)) 5 rfl (by first | rfl | assumption | (simp; done) | (simp; omega) | omega) ?_))
     clear h a w; intro a w h
     (try simp only [List.set_cons_zero, List.set_cons_succ] at h)
     refine wnil ?_
     refine b_normal ?_
     exact ⟨(v9, _, 2, 3), h.keep [3, 4], by dsimp only; decide⟩
   ·
    refine c_seq (c_region ?_)
    refine wv h (r_bin h rfl rfl (B.eql_u8 (y := 2))) rfl ?_
    clear h a w; intro a w h
    refine wv h (r_assign h rfl) rfl ?_
    clear h a w; intro a w h
    refine wnil (c_then ?_)
    first
     | refine c_condD h rfl (fun ht2 => ?_) (fun ht2 => ?_)
     | refine c_condP h rfl (by first | (simp only [Bool.and_eq_true, Bool.or_eq_true, Bool.not_eq_true', decide_eq_true_eq, decide_eq_false_iff_not, ne_eq, Bool.not_eq_eq_eq_not, Bool.not_true, beq_iff_eq, bne_iff_ne]; exact Iff.rfl) | exact Iff.rfl) (fun ht2 => ?_) (fun ht2 => ?_)
    ·
     as_aux_lemma =>
      refine c_seq (c_region ?_)
      refine wv h (r_move h rfl) rfl ?_
      clear h a w; intro a w h
      refine wv h (r_elP h rfl rfl K.u_api_Chart K.sz_api_Elem (by first | exact Views.own 0 rfl | exact Views.own 1 rfl | exact Views.own 2 rfl | exact Views.own 3 rfl | exact Views.own 4 rfl | exact Views.own 5 rfl | assumption | exact Views.of_drop 1 (by assumption) | exact Views.of_drop 2 (by assumption) | exact Views.of_drop 3 (by assumption) | exact Views.of_drop 4 (by assumption) | exact Views.of_drop 5 (by assumption) | exact Views.of_drop 6 (by assumption) | exact Views.of_drop 7 (by assumption) | exact Views.of_drop 8 (by assumption) | exact Views.of_drop 9 (by assumption) | exact Views.of_drop 10 (by assumption) | exact Views.of_drop 11 (by assumption) | exact Views.of_drop 12 (by assumption)) (by first | omega | (simp; done)) (by first | omega | (simp only [List.length_cons, List.length_nil]; omega) | (simp; done) | (simp; omega))) rfl ?_
      clear h a w; intro a w h
      refine wv h (r_elF h 4 rfl K.u_api_Elem rfl K.sz_string rfl rfl (by first | exact Views.own 0 rfl | exact Views.own 1 rfl | exact Views.own 2 rfl | exact Views.own 3 rfl | exact Views.own 4 rfl | exact Views.own 5 rfl | assumption | exact Views.of_drop 1 (by assumption) | exact Views.of_drop 2 (by assumption) | exact Views.of_drop 3 (by assumption) | exact Views.of_drop 4 (by assumption) | exact Views.of_drop 5 (by assumption) | exact Views.of_drop 6 (by assumption) | exact Views.of_drop 7 (by assumption) | exact Views.of_drop 8 (by assumption) | exact Views.of_drop 9 (by assumption) | exact Views.of_drop 10 (by assumption) | exact Views.of_drop 11 (by assumption) | exact Views.of_drop 12 (by assumption)) (by first | omega | (simp only [List.length_cons, List.length_nil]; omega) | (simp; done) | (simp; omega))) rfl ?_
      clear h a w; intro a w h
      refine wl rfl (op_storeRf (cells := cellsE) (l := oneS) h ⟨2, 1, 1, 0, [97], 0, 0, [], [], []⟩ rfl rfl K.sz_string rfl rfl (by decide) rfl 1 rfl ?_)
      clear h a w; intro a w h
      refine wnil (c_then ?_)
      refine c_seq (c_region ?_)
      refine wv h (r_move h rfl) rfl ?_
      clear h a w; intro a w h
      refine wv h (r_elP h rfl rfl K.u_api_Chart K.sz_api_Elem (by first | exact Views.own 0 rfl | exact Views.own 1 rfl | exact Views.own 2 rfl | exact Views.own 3 rfl | exact Views.own 4 rfl | exact Views.own 5 rfl | assumption | exact Views.of_drop 1 (by assumption) | exact Views.of_drop 2 (by assumption) | exact Views.of_drop 3 (by assumption) | exact Views.of_drop 4 (by assumption) | exact Views.of_drop 5 (by assumption) | exact Views.of_drop 6 (by assumption) | exact Views.of_drop 7 (by assumption) | exact Views.of_drop 8 (by assumption) | exact Views.of_drop 9 (by assumption) | exact Views.of_drop 10 (by assumption) | exact Views.of_drop 11 (by assumption) | exact Views.of_drop 12 (by assumption)) (by first | omega | (simp; done)) (by first | omega | (simp only [List.length_cons, List.length_nil]; omega) | (simp; done) | (simp; omega))) rfl ?_
      clear h a w; intro a w h
      refine wv h (r_elF h 2 rfl K.u_api_Elem rfl K.sz_int rfl rfl (by first | exact Views.own 0 rfl | exact Views.own 1 rfl | exact Views.own 2 rfl | exact Views.own 3 rfl | exact Views.own 4 rfl | exact Views.own 5 rfl | assumption | exact Views.of_drop 1 (by assumption) | exact Views.of_drop 2 (by assumption) | exact Views.of_drop 3 (by assumption) | exact Views.of_drop 4 (by assumption) | exact Views.of_drop 5 (by assumption) | exact Views.of_drop 6 (by assumption) | exact Views.of_drop 7 (by assumption) | exact Views.of_drop 8 (by assumption) | exact Views.of_drop 9 (by assumption) | exact Views.of_drop 10 (by assumption) | exact Views.of_drop 11 (by assumption) | exact Views.of_drop 12 (by assumption)) (by first | omega | (simp only [List.length_cons, List.length_nil]; omega) | (simp; done) | (simp; omega))) rfl ?_
      clear h a w; intro a w h
      refine wl rfl (op_storeRf (cells := cellsE) (u := ⟨2, 1, 1, 0, [97], 0, 0, [], [], []⟩) h ⟨2, 1, 0, 0, [97], 0, 0, [], [], []⟩ rfl rfl K.sz_int rfl rfl (by decide) rfl 1 rfl ?_)
      clear h a w; intro a w h
      refine wnil (c_then ?_)
      refine c_region ?_
      refine wv h (r_build (cells := fC 3 1) h K.u_api_Fault K.z_api_Fault K.pl_api_Fault rfl (by kernel_rfl)) rfl ?_
      clear h a w; intro a w h
      first
            | (refine wl rfl (op_stA h rfl rfl K.sz_api_Fault (by first | exact Row.len _ | rfl | assumption | (simp; done) | (simp; omega) | omega) (by first | exact Row.one _ | exact bs_one _ | assumption | (simp; done) | (simp; (repeat' apply And.intro) <;> first | rfl | assumption)) 0 rfl (by first | rfl | assumption | (simp; done) | (simp; omega) | omega) ?_))
            | (refine wl rfl (op_stA h rfl rfl K.sz_api_Fault (by first | exact Row.len _ | rfl | assumption | (simp; done) | (simp; omega) | omega) (by first | exact Row.one _ | exact bs_one _ | assumption | (simp; done) | (simp; (repeat' apply And.intro) <;> first | rfl | assumption)) 1 rfl (by first | rfl | assumption | (simp; done) | (simp; omega) | omega) ?_))
            | (refine wl rfl (op_stA h rfl rfl K.sz_api_Fault (by first | exact Row.len _ | rfl | assumption | (simp; done) | (simp; omega) | omega) (by first | exact Row.one _ | exact bs_one _ | assumption | (simp; done) | (simp; (repeat' apply And.intro) <;> first | rfl | assumption)) 2 rfl (by first | rfl | assumption | (simp; done) | (simp; omega) | omega) ?_))
            | (refine wl rfl (op_stA h rfl rfl K.sz_api_Fault (by first | exact Row.len _ | rfl | assumption | (simp; done) | (simp; omega) | omega) (by first | exact Row.one _ | exact bs_one _ | assumption | (simp; done) | (simp; (repeat' apply And.intro) <;> first | rfl | assumption)) 3 rfl (by first | rfl | assumption | (simp; done) | (simp; omega) | omega) ?_))
            | (refine wl rfl (op_stA h rfl rfl K.sz_api_Fault (by first | exact Row.len _ | rfl | assumption | (simp; done) | (simp; omega) | omega) (by first | exact Row.one _ | exact bs_one _ | assumption | (simp; done) | (simp; (repeat' apply And.intro) <;> first | rfl | assumption)) 4 rfl (by first | rfl | assumption | (simp; done) | (simp; omega) | omega) ?_))
            | (refine wl rfl (op_stA h rfl rfl K.sz_api_Fault (by first | exact Row.len _ | rfl | assumption | (simp; done) | (simp; omega) | omega) (by first | exact Row.one _ | exact bs_one _ | assumption | (simp; done) | (simp; (repeat' apply And.intro) <;> first | rfl | assumption)) 5 rfl (by first | rfl | assumption | (simp; done) | (simp; omega) | omega) ?_))
      clear h a w; intro a w h
      (try simp only [List.set_cons_zero, List.set_cons_succ] at h)
      refine wnil ?_
      refine b_normal ?_
      exact ⟨(v9, _, 3, 1), h.keep [3, 4], by dsimp only; decide⟩
    ·
     refine c_seq (c_region ?_)
     refine wv h (r_bin h rfl rfl (B.eql_u8 (y := 3))) rfl ?_
     clear h a w; intro a w h
     refine wv h (r_assign h rfl) rfl ?_
     clear h a w; intro a w h
     refine wnil (c_then ?_)
     first
      | refine c_condD h rfl (fun ht3 => ?_) (fun ht3 => ?_)
      | refine c_condP h rfl (by first | (simp only [Bool.and_eq_true, Bool.or_eq_true, Bool.not_eq_true', decide_eq_true_eq, decide_eq_false_iff_not, ne_eq, Bool.not_eq_eq_eq_not, Bool.not_true, beq_iff_eq, bne_iff_ne]; exact Iff.rfl) | exact Iff.rfl) (fun ht3 => ?_) (fun ht3 => ?_)
     ·
      as_aux_lemma =>
       refine c_seq (c_region ?_)
       refine wv h (r_move h rfl) rfl ?_
       clear h a w; intro a w h
       refine wv h (r_elP h rfl rfl K.u_api_Chart K.sz_api_Elem (by first | exact Views.own 0 rfl | exact Views.own 1 rfl | exact Views.own 2 rfl | exact Views.own 3 rfl | exact Views.own 4 rfl | exact Views.own 5 rfl | assumption | exact Views.of_drop 1 (by assumption) | exact Views.of_drop 2 (by assumption) | exact Views.of_drop 3 (by assumption) | exact Views.of_drop 4 (by assumption) | exact Views.of_drop 5 (by assumption) | exact Views.of_drop 6 (by assumption) | exact Views.of_drop 7 (by assumption) | exact Views.of_drop 8 (by assumption) | exact Views.of_drop 9 (by assumption) | exact Views.of_drop 10 (by assumption) | exact Views.of_drop 11 (by assumption) | exact Views.of_drop 12 (by assumption)) (by first | omega | (simp; done)) (by first | omega | (simp only [List.length_cons, List.length_nil]; omega) | (simp; done) | (simp; omega))) rfl ?_
       clear h a w; intro a w h
       refine wv h (r_elF h 2 rfl K.u_api_Elem rfl K.sz_int rfl rfl (by first | exact Views.own 0 rfl | exact Views.own 1 rfl | exact Views.own 2 rfl | exact Views.own 3 rfl | exact Views.own 4 rfl | exact Views.own 5 rfl | assumption | exact Views.of_drop 1 (by assumption) | exact Views.of_drop 2 (by assumption) | exact Views.of_drop 3 (by assumption) | exact Views.of_drop 4 (by assumption) | exact Views.of_drop 5 (by assumption) | exact Views.of_drop 6 (by assumption) | exact Views.of_drop 7 (by assumption) | exact Views.of_drop 8 (by assumption) | exact Views.of_drop 9 (by assumption) | exact Views.of_drop 10 (by assumption) | exact Views.of_drop 11 (by assumption) | exact Views.of_drop 12 (by assumption)) (by first | omega | (simp only [List.length_cons, List.length_nil]; omega) | (simp; done) | (simp; omega))) rfl ?_
       clear h a w; intro a w h
       refine wl rfl (op_storeRf (cells := cellsE) (l := oneS) h ⟨2, 1, 3, 0, [98], 0, 0, [], [], []⟩ rfl rfl K.sz_int rfl rfl (by decide) rfl 1 rfl ?_)
       clear h a w; intro a w h
       refine wnil (c_then ?_)
       refine c_region ?_
       refine wv h (r_build (cells := fC 4 2) h K.u_api_Fault K.z_api_Fault K.pl_api_Fault rfl (by kernel_rfl)) rfl ?_
       clear h a w; intro a w h
       first
              | (refine wl rfl (op_stA h rfl rfl K.sz_api_Fault (by first | exact Row.len _ | rfl | assumption | (simp; done) | (simp; omega) | omega) (by first | exact Row.one _ | exact bs_one _ | assumption | (simp; done) | (simp; (repeat' apply And.intro) <;> first | rfl | assumption)) 0 rfl (by first | rfl | assumption | (simp; done) | (simp; omega) | omega) ?_))
              | (refine wl rfl (op_stA h rfl rfl K.sz_api_Fault (by first | exact Row.len _ | rfl | assumption | (simp; done) | (simp; omega) | omega) (by first | exact Row.one _ | exact bs_one _ | assumption | (simp; done) | (simp; (repeat' apply And.intro) <;> first | rfl | assumption)) 1 rfl (by first | rfl | assumption | (simp; done) | (simp; omega) | omega) ?_))
              | (refine wl rfl (op_stA h rfl rfl K.sz_api_Fault (by first | exact Row.len _ | rfl | assumption | (simp; done) | (simp; omega) | omega) (by first | exact Row.one _ | exact bs_one _ | assumption | (simp; done) | (simp; (repeat' apply And.intro) <;> first | rfl | assumption)) 2 rfl (by first | rfl | assumption | (simp; done) | (simp; omega) | omega) ?_))
              | (refine wl rfl (op_stA h rfl rfl K.sz_api_Fault (by first | exact Row.len _ | rfl | assumption | (simp; done) | (simp; omega) | omega) (by first | exact Row.one _ | exact bs_one _ | assumption | (simp; done) | (simp; (repeat' apply And.intro) <;> first | rfl | assumption)) 3 rfl (by first | rfl | assumption | (simp; done) | (simp; omega) | omega) ?_))
              | (refine wl rfl (op_stA h rfl rfl K.sz_api_Fault (by first | exact Row.len _ | rfl | assumption | (simp; done) | (simp; omega) | omega) (by first | exact Row.one _ | exact bs_one _ | assumption | (simp; done) | (simp; (repeat' apply And.intro) <;> first | rfl | assumption)) 4 rfl (by first | rfl | assumption | (simp; done) | (simp; omega) | omega) ?_))
              | (refine wl rfl (op_stA h rfl rfl K.sz_api_Fault (by first | exact Row.len _ | rfl | assumption | (simp; done) | (simp; omega) | omega) (by first | exact Row.one _ | exact bs_one _ | assumption | (simp; done) | (simp; (repeat' apply And.intro) <;> first | rfl | assumption)) 5 rfl (by first | rfl | assumption | (simp; done) | (simp; omega) | omega) ?_))
       clear h a w; intro a w h
       (try simp only [List.set_cons_zero, List.set_cons_succ] at h)
       refine wnil ?_
       refine b_normal ?_
       exact ⟨(v9, _, 4, 2), h.keep [3, 4], by dsimp only; decide⟩
     ·
      refine c_seq (c_region ?_)
      refine wv h (r_bin h rfl rfl (B.eql_u8 (y := 4))) rfl ?_
      clear h a w; intro a w h
      refine wv h (r_assign h rfl) rfl ?_
      clear h a w; intro a w h
      refine wnil (c_then ?_)
      first
       | refine c_condD h rfl (fun ht4 => ?_) (fun ht4 => ?_)
       | refine c_condP h rfl (by first | (simp only [Bool.and_eq_true, Bool.or_eq_true, Bool.not_eq_true', decide_eq_true_eq, decide_eq_false_iff_not, ne_eq, Bool.not_eq_eq_eq_not, Bool.not_true, beq_iff_eq, bne_iff_ne]; exact Iff.rfl) | exact Iff.rfl) (fun ht4 => ?_) (fun ht4 => ?_)
      ·
       as_aux_lemma =>
        refine c_seq (c_region ?_)
        refine wv h (r_move h rfl) rfl ?_
        clear h a w; intro a w h
        refine wv h (r_elP h rfl rfl K.u_api_Chart K.sz_api_Elem (by first | exact Views.own 0 rfl | exact Views.own 1 rfl | exact Views.own 2 rfl | exact Views.own 3 rfl | exact Views.own 4 rfl | exact Views.own 5 rfl | assumption | exact Views.of_drop 1 (by assumption) | exact Views.of_drop 2 (by assumption) | exact Views.of_drop 3 (by assumption) | exact Views.of_drop 4 (by assumption) | exact Views.of_drop 5 (by assumption) | exact Views.of_drop 6 (by assumption) | exact Views.of_drop 7 (by assumption) | exact Views.of_drop 8 (by assumption) | exact Views.of_drop 9 (by assumption) | exact Views.of_drop 10 (by assumption) | exact Views.of_drop 11 (by assumption) | exact Views.of_drop 12 (by assumption)) (by first | omega | (simp; done)) (by first | omega | (simp only [List.length_cons, List.length_nil]; omega) | (simp; done) | (simp; omega))) rfl ?_
        clear h a w; intro a w h
        refine wv h (r_elF h 2 rfl K.u_api_Elem rfl K.sz_int rfl rfl (by first | exact Views.own 0 rfl | exact Views.own 1 rfl | exact Views.own 2 rfl | exact Views.own 3 rfl | exact Views.own 4 rfl | exact Views.own 5 rfl | assumption | exact Views.of_drop 1 (by assumption) | exact Views.of_drop 2 (by assumption) | exact Views.of_drop 3 (by assumption) | exact Views.of_drop 4 (by assumption) | exact Views.of_drop 5 (by assumption) | exact Views.of_drop 6 (by assumption) | exact Views.of_drop 7 (by assumption) | exact Views.of_drop 8 (by assumption) | exact Views.of_drop 9 (by assumption) | exact Views.of_drop 10 (by assumption) | exact Views.of_drop 11 (by assumption) | exact Views.of_drop 12 (by assumption)) (by first | omega | (simp only [List.length_cons, List.length_nil]; omega) | (simp; done) | (simp; omega))) rfl ?_
        clear h a w; intro a w h
        refine wl rfl (op_storeRf (cells := cellsE) (l := oneS) h ⟨1, 1, 2, 0, [97], 0, 0, [], [], []⟩ rfl rfl K.sz_int rfl rfl (by decide) rfl 1 rfl ?_)
        clear h a w; intro a w h
        refine wnil (c_then ?_)
        refine c_region ?_
        refine wv h (r_build (cells := fC 5 1) h K.u_api_Fault K.z_api_Fault K.pl_api_Fault rfl (by kernel_rfl)) rfl ?_
        clear h a w; intro a w h
        first
                | (refine wl rfl (op_stA h rfl rfl K.sz_api_Fault (by first | exact Row.len _ | rfl | assumption | (simp; done) | (simp; omega) | omega) (by first | exact Row.one _ | exact bs_one _ | assumption | (simp; done) | (simp; (repeat' apply And.intro) <;> first | rfl | assumption)) 0 rfl (by first | rfl | assumption | (simp; done) | (simp; omega) | omega) ?_))
                | (refine wl rfl (op_stA h rfl rfl K.sz_api_Fault (by first | exact Row.len _ | rfl | assumption | (simp; done) | (simp; omega) | omega) (by first | exact Row.one _ | exact bs_one _ | assumption | (simp; done) | (simp; (repeat' apply And.intro) <;> first | rfl | assumption)) 1 rfl (by first | rfl | assumption | (simp; done) | (simp; omega) | omega) ?_))
                | (refine wl rfl (op_stA h rfl rfl K.sz_api_Fault (by first | exact Row.len _ | rfl | assumption | (simp; done) | (simp; omega) | omega) (by first | exact Row.one _ | exact bs_one _ | assumption | (simp; done) | (simp; (repeat' apply And.intro) <;> first | rfl | assumption)) 2 rfl (by first | rfl | assumption | (simp; done) | (simp; omega) | omega) ?_))
                | (refine wl rfl (op_stA h rfl rfl K.sz_api_Fault (by first | exact Row.len _ | rfl | assumption | (simp; done) | (simp; omega) | omega) (by first | exact Row.one _ | exact bs_one _ | assumption | (simp; done) | (simp; (repeat' apply And.intro) <;> first | rfl | assumption)) 3 rfl (by first | rfl | assumption | (simp; done) | (simp; omega) | omega) ?_))
                | (refine wl rfl (op_stA h rfl rfl K.sz_api_Fault (by first | exact Row.len _ | rfl | assumption | (simp; done) | (simp; omega) | omega) (by first | exact Row.one _ | exact bs_one _ | assumption | (simp; done) | (simp; (repeat' apply And.intro) <;> first | rfl | assumption)) 4 rfl (by first | rfl | assumption | (simp; done) | (simp; omega) | omega) ?_))
                | (refine wl rfl (op_stA h rfl rfl K.sz_api_Fault (by first | exact Row.len _ | rfl | assumption | (simp; done) | (simp; omega) | omega) (by first | exact Row.one _ | exact bs_one _ | assumption | (simp; done) | (simp; (repeat' apply And.intro) <;> first | rfl | assumption)) 5 rfl (by first | rfl | assumption | (simp; done) | (simp; omega) | omega) ?_))
        clear h a w; intro a w h
        (try simp only [List.set_cons_zero, List.set_cons_succ] at h)
        refine wnil ?_
        refine b_normal ?_
        exact ⟨(v9, _, 5, 1), h.keep [3, 4], by dsimp only; decide⟩
      ·
       refine c_seq (c_region ?_)
       refine wv h (r_bin h rfl rfl (B.eql_u8 (y := 5))) rfl ?_
       clear h a w; intro a w h
       refine wv h (r_assign h rfl) rfl ?_
       clear h a w; intro a w h
       refine wnil (c_then ?_)
       first
        | refine c_condD h rfl (fun ht5 => ?_) (fun ht5 => ?_)
        | refine c_condP h rfl (by first | (simp only [Bool.and_eq_true, Bool.or_eq_true, Bool.not_eq_true', decide_eq_true_eq, decide_eq_false_iff_not, ne_eq, Bool.not_eq_eq_eq_not, Bool.not_true, beq_iff_eq, bne_iff_ne]; exact Iff.rfl) | exact Iff.rfl) (fun ht5 => ?_) (fun ht5 => ?_)
       ·
        as_aux_lemma =>
         refine c_seq (c_region ?_)
         refine wv h (r_move h rfl) rfl ?_
         clear h a w; intro a w h
         refine wv h (r_elP h rfl rfl K.u_api_Chart K.sz_api_Elem (by first | exact Views.own 0 rfl | exact Views.own 1 rfl | exact Views.own 2 rfl | exact Views.own 3 rfl | exact Views.own 4 rfl | exact Views.own 5 rfl | assumption | exact Views.of_drop 1 (by assumption) | exact Views.of_drop 2 (by assumption) | exact Views.of_drop 3 (by assumption) | exact Views.of_drop 4 (by assumption) | exact Views.of_drop 5 (by assumption) | exact Views.of_drop 6 (by assumption) | exact Views.of_drop 7 (by assumption) | exact Views.of_drop 8 (by assumption) | exact Views.of_drop 9 (by assumption) | exact Views.of_drop 10 (by assumption) | exact Views.of_drop 11 (by assumption) | exact Views.of_drop 12 (by assumption)) (by first | omega | (simp; done)) (by first | omega | (simp only [List.length_cons, List.length_nil]; omega) | (simp; done) | (simp; omega))) rfl ?_
         clear h a w; intro a w h
         refine wv h (r_elF h 5 rfl K.u_api_Elem rfl K.sz_int rfl rfl (by first | exact Views.own 0 rfl | exact Views.own 1 rfl | exact Views.own 2 rfl | exact Views.own 3 rfl | exact Views.own 4 rfl | exact Views.own 5 rfl | assumption | exact Views.of_drop 1 (by assumption) | exact Views.of_drop 2 (by assumption) | exact Views.of_drop 3 (by assumption) | exact Views.of_drop 4 (by assumption) | exact Views.of_drop 5 (by assumption) | exact Views.of_drop 6 (by assumption) | exact Views.of_drop 7 (by assumption) | exact Views.of_drop 8 (by assumption) | exact Views.of_drop 9 (by assumption) | exact Views.of_drop 10 (by assumption) | exact Views.of_drop 11 (by assumption) | exact Views.of_drop 12 (by assumption)) (by first | omega | (simp only [List.length_cons, List.length_nil]; omega) | (simp; done) | (simp; omega))) rfl ?_
         clear h a w; intro a w h
         refine wl rfl (op_storeRf (cells := cellsE) (l := oneS) h ⟨4, 5, 0, 0, [], 3, 3, [101], [], []⟩ rfl rfl K.sz_int rfl rfl (by decide) rfl 1 rfl ?_)
         clear h a w; intro a w h
         refine wnil (c_then ?_)
         refine c_region ?_
         refine wv h (r_build (cells := fC 6 4) h K.u_api_Fault K.z_api_Fault K.pl_api_Fault rfl (by kernel_rfl)) rfl ?_
         clear h a w; intro a w h
         first
                  | (refine wl rfl (op_stA h rfl rfl K.sz_api_Fault (by first | exact Row.len _ | rfl | assumption | (simp; done) | (simp; omega) | omega) (by first | exact Row.one _ | exact bs_one _ | assumption | (simp; done) | (simp; (repeat' apply And.intro) <;> first | rfl | assumption)) 0 rfl (by first | rfl | assumption | (simp; done) | (simp; omega) | omega) ?_))
                  | (refine wl rfl (op_stA h rfl rfl K.sz_api_Fault (by first | exact Row.len _ | rfl | assumption | (simp; done) | (simp; omega) | omega) (by first | exact Row.one _ | exact bs_one _ | assumption | (simp; done) | (simp; (repeat' apply And.intro) <;> first | rfl | assumption)) 1 rfl (by first | rfl | assumption | (simp; done) | (simp; omega) | omega) ?_))
                  | (refine wl rfl (op_stA h rfl rfl K.sz_api_Fault (by first | exact Row.len _ | rfl | assumption | (simp; done) | (simp; omega) | omega) (by first | exact Row.one _ | exact bs_one _ | assumption | (simp; done) | (simp; (repeat' apply And.intro) <;> first | rfl | assumption)) 2 rfl (by first | rfl | assumption | (simp; done) | (simp; omega) | omega) ?_))
                  | (refine wl rfl (op_stA h rfl rfl K.sz_api_Fault (by first | exact Row.len _ | rfl | assumption | (simp; done) | (simp; omega) | omega) (by first | exact Row.one _ | exact bs_one _ | assumption | (simp; done) | (simp; (repeat' apply And.intro) <;> first | rfl | assumption)) 3 rfl (by first | rfl | assumption | (simp; done) | (simp; omega) | omega) ?_))
                  | (refine wl rfl (op_stA h rfl rfl K.sz_api_Fault (by first | exact Row.len _ | rfl | assumption | (simp; done) | (simp; omega) | omega) (by first | exact Row.one _ | exact bs_one _ | assumption | (simp; done) | (simp; (repeat' apply And.intro) <;> first | rfl | assumption)) 4 rfl (by first | rfl | assumption | (simp; done) | (simp; omega) | omega) ?_))
                  | (refine wl rfl (op_stA h rfl rfl K.sz_api_Fault (by first | exact Row.len _ | rfl | assumption | (simp; done) | (simp; omega) | omega) (by first | exact Row.one _ | exact bs_one _ | assumption | (simp; done) | (simp; (repeat' apply And.intro) <;> first | rfl | assumption)) 5 rfl (by first | rfl | assumption | (simp; done) | (simp; omega) | omega) ?_))
         clear h a w; intro a w h
         (try simp only [List.set_cons_zero, List.set_cons_succ] at h)
         refine wnil ?_
         refine b_normal ?_
         exact ⟨(v9, _, 6, 4), h.keep [3, 4], by dsimp only; decide⟩
       ·
        refine c_seq (c_region ?_)
        refine wv h (r_bin h rfl rfl (B.eql_u8 (y := 6))) rfl ?_
        clear h a w; intro a w h
        refine wv h (r_assign h rfl) rfl ?_
        clear h a w; intro a w h
        refine wnil (c_then ?_)
        first
         | refine c_condD h rfl (fun ht6 => ?_) (fun ht6 => ?_)
         | refine c_condP h rfl (by first | (simp only [Bool.and_eq_true, Bool.or_eq_true, Bool.not_eq_true', decide_eq_true_eq, decide_eq_false_iff_not, ne_eq, Bool.not_eq_eq_eq_not, Bool.not_true, beq_iff_eq, bne_iff_ne]; exact Iff.rfl) | exact Iff.rfl) (fun ht6 => ?_) (fun ht6 => ?_)
        ·
         as_aux_lemma =>
          refine c_seq (c_region ?_)
          refine wv h (r_move h rfl) rfl ?_
          clear h a w; intro a w h
          refine wv h (r_build (cells := ⟨cellsE ⟨5, 5, 0, 0, [], 1, 1, [], [], []⟩⟩) h K.u_api_Elem K.z_api_Elem K.pl_api_Elem rfl (by kernel_rfl)) rfl ?_
          clear h a w; intro a w h
          refine wl rfl (op_build1 h K.u_api_Chart K.sz_api_Elem K.z_api_Elem rfl rfl rfl (by first | exact Row.len _ | rfl | assumption | (simp; done) | (simp; omega) | omega) rfl ?_)
          clear h a w; intro b50 a w h
          refine wl rfl (op_appendR1 (cells := cellsE) (l := oneS) h rfl rfl K.u_api_Chart K.sz_api_Elem K.z_api_Elem rfl rfl 1 rfl (by decide) rfl ?_)
          clear h a w; intro v51 a w h
          simp only [List.set_cons_zero, List.set_cons_succ] at h
          refine wv h (r_assign h rfl) rfl ?_
          clear h a w; intro a w h
          refine wnil (c_then ?_)
          refine c_region ?_
          refine wv h (r_build (cells := fC 7 4) h K.u_api_Fault K.z_api_Fault K.pl_api_Fault rfl (by kernel_rfl)) rfl ?_
          clear h a w; intro a w h
          first
                    | (refine wl rfl (op_stA h rfl rfl K.sz_api_Fault (by first | exact Row.len _ | rfl | assumption | (simp; done) | (simp; omega) | omega) (by first | exact Row.one _ | exact bs_one _ | assumption | (simp; done) | (simp; (repeat' apply And.intro) <;> first | rfl | assumption)) 0 rfl (by first | rfl | assumption | (simp; done) | (simp; omega) | omega) ?_))
                    | (refine wl rfl (op_stA h rfl rfl K.sz_api_Fault (by first | exact Row.len _ | rfl | assumption | (simp; done) | (simp; omega) | omega) (by first | exact Row.one _ | exact bs_one _ | assumption | (simp; done) | (simp; (repeat' apply And.intro) <;> first | rfl | assumption)) 1 rfl (by first | rfl | assumption | (simp; done) | (simp; omega) | omega) ?_))
                    | (refine wl rfl (op_stA h rfl rfl K.sz_api_Fault (by first | exact Row.len _ | rfl | assumption | (simp; done) | (simp; omega) | omega) (by first | exact Row.one _ | exact bs_one _ | assumption | (simp; done) | (simp; (repeat' apply And.intro) <;> first | rfl | assumption)) 2 rfl (by first | rfl | assumption | (simp; done) | (simp; omega) | omega) ?_))
                    | (refine wl rfl (op_stA h rfl rfl K.sz_api_Fault (by first | exact Row.len _ | rfl | assumption | (simp; done) | (simp; omega) | omega) (by first | exact Row.one _ | exact bs_one _ | assumption | (simp; done) | (simp; (repeat' apply And.intro) <;> first | rfl | assumption)) 3 rfl (by first | rfl | assumption | (simp; done) | (simp; omega) | omega) ?_))
                    | (refine wl rfl (op_stA h rfl rfl K.sz_api_Fault (by first | exact Row.len _ | rfl | assumption | (simp; done) | (simp; omega) | omega) (by first | exact Row.one _ | exact bs_one _ | assumption | (simp; done) | (simp; (repeat' apply And.intro) <;> first | rfl | assumption)) 4 rfl (by first | rfl | assumption | (simp; done) | (simp; omega) | omega) ?_))
                    | (refine wl rfl (op_stA h rfl rfl K.sz_api_Fault (by first | exact Row.len _ | rfl | assumption | (simp; done) | (simp; omega) | omega) (by first | exact Row.one _ | exact bs_one _ | assumption | (simp; done) | (simp; (repeat' apply And.intro) <;> first | rfl | assumption)) 5 rfl (by first | rfl | assumption | (simp; done) | (simp; omega) | omega) ?_))
          clear h a w; intro a w h
          (try simp only [List.set_cons_zero, List.set_cons_succ] at h)
          refine wnil ?_
          refine b_normal ?_
          exact ⟨(v51, _, 7, 4), h.keep [3, 4], by dsimp only; decide⟩
        ·
         refine c_seq (c_region ?_)
         refine wv h (r_bin h rfl rfl (B.eql_u8 (y := 7))) rfl ?_
         clear h a w; intro a w h
         refine wv h (r_assign h rfl) rfl ?_
         clear h a w; intro a w h
         refine wnil (c_then ?_)
         first
          | refine c_condD h rfl (fun ht7 => ?_) (fun ht7 => ?_)
          | refine c_condP h rfl (by first | (simp only [Bool.and_eq_true, Bool.or_eq_true, Bool.not_eq_true', decide_eq_true_eq, decide_eq_false_iff_not, ne_eq, Bool.not_eq_eq_eq_not, Bool.not_true, beq_iff_eq, bne_iff_ne]; exact Iff.rfl) | exact Iff.rfl) (fun ht7 => ?_) (fun ht7 => ?_)
         ·
          as_aux_lemma =>
           refine c_seq (c_region ?_)
           refine wv h (r_move h rfl) rfl ?_
           clear h a w; intro a w h
           refine wv h (r_build (cells := ⟨cellsE ⟨5, 2, 1, 0, [114], 0, 0, [], [], []⟩⟩) h K.u_api_Elem K.z_api_Elem K.pl_api_Elem rfl (by kernel_rfl)) rfl ?_
           clear h a w; intro a w h
           refine wl rfl (op_build1 h K.u_api_Chart K.sz_api_Elem K.z_api_Elem rfl rfl rfl (by first | exact Row.len _ | rfl | assumption | (simp; done) | (simp; omega) | omega) rfl ?_)
           clear h a w; intro b57 a w h
           refine wl rfl (op_appendR1 (cells := cellsE) (l := oneS) h rfl rfl K.u_api_Chart K.sz_api_Elem K.z_api_Elem rfl rfl 1 rfl (by decide) rfl ?_)
           clear h a w; intro v58 a w h
           simp only [List.set_cons_zero, List.set_cons_succ] at h
           refine wv h (r_assign h rfl) rfl ?_
           clear h a w; intro a w h
           refine wnil (c_then ?_)
           refine c_region ?_
           refine wv h (r_build (cells := fC 8 1) h K.u_api_Fault K.z_api_Fault K.pl_api_Fault rfl (by kernel_rfl)) rfl ?_
           clear h a w; intro a w h
           first
                      | (refine wl rfl (op_stA h rfl rfl K.sz_api_Fault (by first | exact Row.len _ | rfl | assumption | (simp; done) | (simp; omega) | omega) (by first | exact Row.one _ | exact bs_one _ | assumption | (simp; done) | (simp; (repeat' apply And.intro) <;> first | rfl | assumption)) 0 rfl (by first | rfl | assumption | (simp; done) | (simp; omega) | omega) ?_))
                      | (refine wl rfl (op_stA h rfl rfl K.sz_api_Fault (by first | exact Row.len _ | rfl | assumption | (simp; done) | (simp; omega) | omega) (by first | exact Row.one _ | exact bs_one _ | assumption | (simp; done) | (simp; (repeat' apply And.intro) <;> first | rfl | assumption)) 1 rfl (by first | rfl | assumption | (simp; done) | (simp; omega) | omega) ?_))
                      | (refine wl rfl (op_stA h rfl rfl K.sz_api_Fault (by first | exact Row.len _ | rfl | assumption | (simp; done) | (simp; omega) | omega) (by first | exact Row.one _ | exact bs_one _ | assumption | (simp; done) | (simp; (repeat' apply And.intro) <;> first | rfl | assumption)) 2 rfl (by first | rfl | assumption | (simp; done) | (simp; omega) | omega) ?_))
                      | (refine wl rfl (op_stA h rfl rfl K.sz_api_Fault (by first | exact Row.len _ | rfl | assumption | (simp; done) | (simp; omega) | omega) (by first | exact Row.one _ | exact bs_one _ | assumption | (simp; done) | (simp; (repeat' apply And.intro) <;> first | rfl | assumption)) 3 rfl (by first | rfl | assumption | (simp; done) | (simp; omega) | omega) ?_))
                      | (refine wl rfl (op_stA h rfl rfl K.sz_api_Fault (by first | exact Row.len _ | rfl | assumption | (simp; done) | (simp; omega) | omega) (by first | exact Row.one _ | exact bs_one _ | assumption | (simp; done) | (simp; (repeat' apply And.intro) <;> first | rfl | assumption)) 4 rfl (by first | rfl | assumption | (simp; done) | (simp; omega) | omega) ?_))
                      | (refine wl rfl (op_stA h rfl rfl K.sz_api_Fault (by first | exact Row.len _ | rfl | assumption | (simp; done) | (simp; omega) | omega) (by first | exact Row.one _ | exact bs_one _ | assumption | (simp; done) | (simp; (repeat' apply And.intro) <;> first | rfl | assumption)) 5 rfl (by first | rfl | assumption | (simp; done) | (simp; omega) | omega) ?_))
           clear h a w; intro a w h
           (try simp only [List.set_cons_zero, List.set_cons_succ] at h)
           refine wnil ?_
           refine b_normal ?_
           exact ⟨(v58, _, 8, 1), h.keep [3, 4], by dsimp only; decide⟩
         ·
          refine c_skip ?_
          refine b_normal ?_
          exact ⟨(v9, oneS, 0, 0), h.keep [3, 4], by dsimp only; decide⟩
  ·
   clear h a w; intro z a w hz h
   obtain ⟨cv, c, p, q⟩ := z
   dsimp only at hz h
   refine c_seq (c_draw K.mixed (by kernel_rfl) h ?_)
   clear h a w; intro a hE
   refine q_c hE rfl K.go_law11_awake (fun w hw => law11_awake s _ _ hw) rfl ?_
   clear hE a; intro a hE
   refine qv hE (fun w hw => r_move ⟨hE, hw⟩ rfl) rfl ?_
   clear hE a; intro a hE
   refine qvG hE (by first | exact .t rfl | exact .f rfl | exact .gt rfl | exact .gf rfl) (fun hg w hw => by (try simp only [↓gval_on hg, ↓gval_and hg] at hE); (have hg2 := hg; (try simp only [Bool.and_eq_true, Bool.or_eq_true, Bool.not_eq_true', decide_eq_true_eq, decide_eq_false_iff_not] at hg2)); first | exact r_move ⟨hE, hw⟩ rfl) rfl ?_
   clear hE a; intro a hE
   refine q_cG hE (by first | exact .t rfl | exact .f rfl | exact .gt rfl | exact .gf rfl) K.go_rules_Check (fun hg => by (try simp only [↓gval_on hg, ↓gval_and hg]); (have hg2 := hg; (try simp only [Bool.and_eq_true, Bool.or_eq_true, Bool.not_eq_true', decide_eq_true_eq, decide_eq_false_iff_not] at hg2)); exact ⟨_, rfl, fun w hw => rules_Check s _ _ _ _ (by first | exact Views.own 0 rfl | exact Views.own 1 rfl | exact Views.own 2 rfl | exact Views.own 3 rfl | exact Views.own 4 rfl | exact Views.own 5 rfl | assumption | exact Views.of_drop 1 (by assumption) | exact Views.of_drop 2 (by assumption) | exact Views.of_drop 3 (by assumption) | exact Views.of_drop 4 (by assumption) | exact Views.of_drop 5 (by assumption) | exact Views.of_drop 6 (by assumption) | exact Views.of_drop 7 (by assumption) | exact Views.of_drop 8 (by assumption) | exact Views.of_drop 9 (by assumption) | exact Views.of_drop 10 (by assumption) | exact Views.of_drop 11 (by assumption) | exact Views.of_drop 12 (by assumption)) hw⟩) rfl ?_
   clear hE a; intro a hE
   refine qvG hE (by first | exact .t rfl | exact .f rfl | exact .gt rfl | exact .gf rfl) (fun hg w hw => by (try simp only [↓gval_on hg, ↓gval_and hg] at hE); (have hg2 := hg; (try simp only [Bool.and_eq_true, Bool.or_eq_true, Bool.not_eq_true', decide_eq_true_eq, decide_eq_false_iff_not] at hg2)); first | exact r_ldA ⟨hE, hw⟩ rfl K.u_api_Fault rfl K.sz_api_Fault 0 rfl (by first | exact Row.len _ | rfl | assumption | (simp; done) | (simp; omega) | omega) | exact r_ldA ⟨hE, hw⟩ rfl K.u_api_Fault rfl K.sz_api_Fault 1 rfl (by first | exact Row.len _ | rfl | assumption | (simp; done) | (simp; omega) | omega) | exact r_ldA ⟨hE, hw⟩ rfl K.u_api_Fault rfl K.sz_api_Fault 2 rfl (by first | exact Row.len _ | rfl | assumption | (simp; done) | (simp; omega) | omega) | exact r_ldA ⟨hE, hw⟩ rfl K.u_api_Fault rfl K.sz_api_Fault 3 rfl (by first | exact Row.len _ | rfl | assumption | (simp; done) | (simp; omega) | omega) | exact r_ldA ⟨hE, hw⟩ rfl K.u_api_Fault rfl K.sz_api_Fault 4 rfl (by first | exact Row.len _ | rfl | assumption | (simp; done) | (simp; omega) | omega) | exact r_ldA ⟨hE, hw⟩ rfl K.u_api_Fault rfl K.sz_api_Fault 5 rfl (by first | exact Row.len _ | rfl | assumption | (simp; done) | (simp; omega) | omega) | exact r_loadCA ⟨hE, hw⟩ rfl K.u_api_Fault rfl K.sz_api_Fault (by assumption) (by first | rfl | assumption | (simp; done) | (simp; omega) | omega)) rfl ?_
   clear hE a; intro a hE
   refine qvg hE (fun w hw => r_faulteq ⟨hE, hw⟩ rfl rfl) rfl rfl ?_
   clear hE a; intro a hE
   rw [show decide ((checkR c).1 = p ∧ (checkR c).2 = q) = true by rw [hz]; simp] at hE
   first
      | (refine qv hE (fun w hw => r_pickA ⟨hE, hw⟩ rfl rfl rfl) rfl ?_)
      | (refine qv hE (fun w hw => r_pickO ⟨hE, hw⟩ rfl rfl rfl) rfl ?_)
      | (refine qv hE (fun w hw => r_pick_true ⟨hE, hw⟩ rfl rfl) rfl ?_)
      | (refine qv hE (fun w hw => r_pick_false ⟨hE, hw⟩ rfl rfl) rfl ?_)
      | (refine qv hE (fun w hw => r_pick ⟨hE, hw⟩ rfl rfl rfl) rfl ?_)
   clear hE a; intro a hE
   refine qv hE (fun w hw => r_move ⟨hE, hw⟩ rfl) rfl ?_
   clear hE a; intro a hE
   first
      | (refine qv hE (fun w hw => r_pickA ⟨hE, hw⟩ rfl rfl rfl) rfl ?_)
      | (refine qv hE (fun w hw => r_pickO ⟨hE, hw⟩ rfl rfl rfl) rfl ?_)
      | (refine qv hE (fun w hw => r_pick_true ⟨hE, hw⟩ rfl rfl) rfl ?_)
      | (refine qv hE (fun w hw => r_pick_false ⟨hE, hw⟩ rfl rfl) rfl ?_)
      | (refine qv hE (fun w hw => r_pick ⟨hE, hw⟩ rfl rfl rfl) rfl ?_)
   clear hE a; intro a hE
   refine qv hE (fun w hw => r_move ⟨hE, hw⟩ rfl) rfl ?_
   clear hE a; intro a hE
   first
      | (refine qv hE (fun w hw => r_pickA ⟨hE, hw⟩ rfl rfl rfl) rfl ?_)
      | (refine qv hE (fun w hw => r_pickO ⟨hE, hw⟩ rfl rfl rfl) rfl ?_)
      | (refine qv hE (fun w hw => r_pick_true ⟨hE, hw⟩ rfl rfl) rfl ?_)
      | (refine qv hE (fun w hw => r_pick_false ⟨hE, hw⟩ rfl rfl) rfl ?_)
      | (refine qv hE (fun w hw => r_pick ⟨hE, hw⟩ rfl rfl rfl) rfl ?_)
   clear hE a; intro a hE
   refine qv hE (fun w hw => r_assign ⟨hE, hw⟩ rfl) rfl ?_
   clear hE a; intro a hE
   refine qnil hE ?_
   clear hE a; intro a w h
   refine c_then ?_
   refine c_ret ?_
   exact ret1 h rfl rfl ⟨(), ret_true (by rfl), (by first | exact h.2 | exact h.2.drop 1 | exact h.2.drop 2 | exact h.2.drop 3 | exact h.2.drop 4 | exact h.2.drop 5 | exact h.2.drop 6 | exact h.2.drop 7 | exact h.2.drop 8 | exact h.2.drop 9 | exact h.2.drop 10 | exact h.2.drop 11 | exact h.2.drop 12 | exact h.2.drop 13 | exact h.2.drop 14 | exact h.2.drop 15 | exact h.2.drop 16), trivial⟩

def deepE (j : Nat) : El := ⟨((j + 1 : Nat) : Int), 1, ((j + 1 : Nat) : Int) - 1, 0, [115], 0, 0, [], [], []⟩
def deepR (k : Nat) : List El := (List.range k).map deepE
theorem deepR_len (k : Nat) : (deepR k).length = k := by simp [deepR]
theorem deepR_succ (k : Nat) : deepR (k + 1) = deepR k ++ [deepE k] := by simp [deepR, List.range_succ]
def ringR (k : Nat) : List El := (deepR k).set 0 ⟨1, 1, (k : Int), 0, [115], 0, 0, [], [], []⟩
theorem deep_ok : ∀ k < 41, 1 ≤ k → checkR (deepR k) = (0, 0) ∧ checkR (ringR k) = (5, 1) := by decide +kernel
theorem rulesDeep (s w : World) (n : UInt8) (ring : Bool) (F : List HItem) (hs : Sat s w F) :
    Calls P n_law11_RulesDeep #[bv n, .bool ring] w (Ret s (fun _ : Unit => .bool true) (fun _ => F) (fun _ => True)) := by
  have hn40 : (n % 40).toNat < 40 := by rw [UInt8.toNat_mod]; exact Nat.mod_lt _ (by decide)
  obtain ⟨k, hk⟩ : ∃ k, k = 1 + (n % 40).toNat := ⟨_, rfl⟩
  obtain ⟨hd1, hd2⟩ := deep_ok k (by omega) (by omega)
  refine enter K.fn_law11_RulesDeep rfl K.nt_law11_RulesDeep rfl hs ?_
  clear hs w; intro a w h
  refine c_seq (c_region ?_)
  refine wv h (r_assign h rfl) rfl ?_
  clear h a w; intro a w h
  refine wnil (c_then ?_)
  refine c_seq (c_region ?_)
  refine wv h (r_move h rfl) rfl ?_
  clear h a w; intro a w h
  refine wv h (r_bin h rfl rfl (B.rem_u8 (y := 40) (by decide))) rfl ?_
  clear h a w; intro a w h
  refine wv h (r_conv h rfl K.u_uint8 K.u_int (C.i64_u8) ) rfl ?_
  clear h a w; intro a w h
  refine wv h (r_bin h rfl rfl (B.add_i64 (by omega) (by omega))) rfl ?_
  clear h a w; intro a w h
  rw [show (1 : Int) + ((n % 40).toNat : Int) = (k : Int) by omega] at h
  refine wv h (r_assign h rfl) rfl ?_
  clear h a w; intro a w h
  refine wnil (c_then ?_)
  refine c_seq (c_region ?_)
  refine wv h (r_assign h rfl) rfl ?_
  clear h a w; intro a w h
  refine wnil (c_then ?_)
  refine c_seq ?_
  refine c_seq (c_region ?_)
  refine wv h (r_assign h rfl) rfl ?_
  clear h a w; intro a w h
  refine wnil (c_then ?_)
  refine c_block ?_
  refine c_loopX ⟨h.1, (h.addNilM (size := 10) (cells := cellsE)).2⟩ (X := Nat × Value) (fun x => [(1, .bool ring), (5, .int .i64 (k : Int)), (6, x.2), (7, .int .i64 ((x.1 + 1 : Nat) : Int))]) (fun x => OwnM 10 cellsE x.2 (deepR x.1) :: F) (fun x => x.1 ≤ k) (fun x => k - x.1) (0, .slice none 0 0) ((h.addNilM (size := 10) (cells := cellsE)).keep [1, 5, 6, 7]) (Nat.zero_le _) ?_
  clear h a w; intro x a w hx h
  obtain ⟨j, v⟩ := x
  replace hx : j ≤ k := hx
  dsimp only at h
  have hrl := deepR_len j
  as_aux_lemma =>
   refine c_seq ?_
   refine c_seq (c_region ?_)
   refine wv h (r_move h rfl) rfl ?_
   clear h a w; intro a w h
   refine wv h (r_move h rfl) rfl ?_
   clear h a w; intro a w h
   refine wv h (r_bin h rfl rfl (B.leq_int)) rfl ?_
   clear h a w; intro a w h
   refine wnil (c_then ?_)
   first
    | refine c_condD h rfl (fun ht1 => ?_) (fun ht1 => ?_)
    | refine c_condP h rfl (by first | (simp only [Bool.and_eq_true, Bool.or_eq_true, Bool.not_eq_true', decide_eq_true_eq, decide_eq_false_iff_not, ne_eq, Bool.not_eq_eq_eq_not, Bool.not_true, beq_iff_eq, bne_iff_ne]; exact Iff.rfl) | exact Iff.rfl) (fun ht1 => ?_) (fun ht1 => ?_)
   ·
    refine c_skip ?_
    refine c_then ?_
    refine c_seq ?_
    refine c_block ?_
    refine c_region ?_
    refine wv h (r_move h rfl) rfl ?_
    clear h a w; intro a w h
    refine wv h (r_move h rfl) rfl ?_
    clear h a w; intro a w h
    refine wv h (r_move h rfl) rfl ?_
    clear h a w; intro a w h
    refine wv h (r_bin h rfl rfl (B.sub_i64 (by omega) (by omega))) rfl ?_
    clear h a w; intro a w h
    refine wv h (r_build (cells := ⟨cellsE (deepE j)⟩) h K.u_api_Elem K.z_api_Elem K.pl_api_Elem rfl (by kernel_rfl)) rfl ?_
    clear h a w; intro a w h
    refine wl rfl (op_build1 h K.u_api_Chart K.sz_api_Elem K.z_api_Elem rfl rfl rfl (by first | exact Row.len _ | rfl | assumption | (simp; done) | (simp; omega) | omega) rfl ?_)
    clear h a w; intro b23 a w h
    first
        | (refine wl rfl (op_appendR1 h rfl rfl K.u_api_Chart K.sz_api_Elem K.z_api_Elem rfl rfl 0 rfl (by first | omega | (simp only [List.length_cons, List.length_nil]; omega) | (simp; done) | (simp; omega)) rfl ?_))
        | (refine wl rfl (op_appendR1 h rfl rfl K.u_api_Chart K.sz_api_Elem K.z_api_Elem rfl rfl 1 rfl (by first | omega | (simp only [List.length_cons, List.length_nil]; omega) | (simp; done) | (simp; omega)) rfl ?_))
        | (refine wl rfl (op_appendR1 h rfl rfl K.u_api_Chart K.sz_api_Elem K.z_api_Elem rfl rfl 2 rfl (by first | omega | (simp only [List.length_cons, List.length_nil]; omega) | (simp; done) | (simp; omega)) rfl ?_))
        | (refine wl rfl (op_appendR1 h rfl rfl K.u_api_Chart K.sz_api_Elem K.z_api_Elem rfl rfl 3 rfl (by first | omega | (simp only [List.length_cons, List.length_nil]; omega) | (simp; done) | (simp; omega)) rfl ?_))
        | (refine wl rfl (op_appendR1 h rfl rfl K.u_api_Chart K.sz_api_Elem K.z_api_Elem rfl rfl 4 rfl (by first | omega | (simp only [List.length_cons, List.length_nil]; omega) | (simp; done) | (simp; omega)) rfl ?_))
        | (refine wl rfl (op_appendR1 h rfl rfl K.u_api_Chart K.sz_api_Elem K.z_api_Elem rfl rfl 5 rfl (by first | omega | (simp only [List.length_cons, List.length_nil]; omega) | (simp; done) | (simp; omega)) rfl ?_))
    clear h a w; intro v24 a w h
    (try simp only [List.set_cons_zero, List.set_cons_succ] at h)
    refine wv h (r_assign h rfl) rfl ?_
    clear h a w; intro a w h
    refine wnil ?_
    refine b_normal ?_
    refine c_then ?_
    refine c_region ?_
    refine wv h (r_move h rfl) rfl ?_
    clear h a w; intro a w h
    refine wv h (r_bin h rfl rfl (B.add_i64 (by omega) (by omega))) rfl ?_
    clear h a w; intro a w h
    refine wv h (r_assign h rfl) rfl ?_
    clear h a w; intro a w h
    refine wnil ?_
    rw [show ((j + 1 : Nat) : Int) + 1 = ((j + 1 + 1 : Nat) : Int) by omega] at h
    exact ⟨(j + 1, v24), by dsimp only; rw [deepR_succ]; exact h.keep [1, 5, 6, 7], by show j + 1 ≤ k; omega, by show k - (j + 1) < k - j; omega⟩
   ·
    obtain rfl : j = k := by omega
    refine c_exit ?_
    refine e_then ?_
    refine e_then ?_
    refine e_here ?_
    refine c_then ?_
    refine c_meet h (X := List El) (fun _ => [(1, .bool ring), (6, v)]) (fun c => OwnM 10 cellsE v c :: F) (fun c => checkR c = if ring then (5, 1) else (0, 0)) ?_ ?_
    ·
     refine c_seq (c_region ?_)
     refine wv h (r_move h rfl) rfl ?_
     clear h a w; intro a w h
     refine wnil (c_then ?_)
     first
      | refine c_condD h rfl (fun ht2 => ?_) (fun ht2 => ?_)
      | refine c_condP h rfl (by first | (simp only [Bool.and_eq_true, Bool.or_eq_true, Bool.not_eq_true', decide_eq_true_eq, decide_eq_false_iff_not, ne_eq, Bool.not_eq_eq_eq_not, Bool.not_true, beq_iff_eq, bne_iff_ne]; exact Iff.rfl) | exact Iff.rfl) (fun ht2 => ?_) (fun ht2 => ?_)
     ·
      as_aux_lemma =>
       refine c_region ?_
       refine wv h (r_move h rfl) rfl ?_
       clear h a w; intro a w h
       refine wv h (r_move h rfl) rfl ?_
       clear h a w; intro a w h
       refine wv h (r_elP h rfl rfl K.u_api_Chart K.sz_api_Elem (by first | exact Views.own 0 rfl | exact Views.own 1 rfl | exact Views.own 2 rfl | exact Views.own 3 rfl | exact Views.own 4 rfl | exact Views.own 5 rfl | assumption | exact Views.of_drop 1 (by assumption) | exact Views.of_drop 2 (by assumption) | exact Views.of_drop 3 (by assumption) | exact Views.of_drop 4 (by assumption) | exact Views.of_drop 5 (by assumption) | exact Views.of_drop 6 (by assumption) | exact Views.of_drop 7 (by assumption) | exact Views.of_drop 8 (by assumption) | exact Views.of_drop 9 (by assumption) | exact Views.of_drop 10 (by assumption) | exact Views.of_drop 11 (by assumption) | exact Views.of_drop 12 (by assumption)) (by first | omega | (simp; done)) (by first | omega | (simp only [List.length_cons, List.length_nil]; omega) | (simp; done) | (simp; omega))) rfl ?_
       clear h a w; intro a w h
       refine wv h (r_elF h 2 rfl K.u_api_Elem rfl K.sz_int rfl rfl (by first | exact Views.own 0 rfl | exact Views.own 1 rfl | exact Views.own 2 rfl | exact Views.own 3 rfl | exact Views.own 4 rfl | exact Views.own 5 rfl | assumption | exact Views.of_drop 1 (by assumption) | exact Views.of_drop 2 (by assumption) | exact Views.of_drop 3 (by assumption) | exact Views.of_drop 4 (by assumption) | exact Views.of_drop 5 (by assumption) | exact Views.of_drop 6 (by assumption) | exact Views.of_drop 7 (by assumption) | exact Views.of_drop 8 (by assumption) | exact Views.of_drop 9 (by assumption) | exact Views.of_drop 10 (by assumption) | exact Views.of_drop 11 (by assumption) | exact Views.of_drop 12 (by assumption)) (by first | omega | (simp only [List.length_cons, List.length_nil]; omega) | (simp; done) | (simp; omega))) rfl ?_
       clear h a w; intro a w h
       refine wl rfl (op_storeRf (cells := cellsE) (l := deepR j) (u := deepE 0) h ⟨1, 1, (j : Int), 0, [115], 0, 0, [], [], []⟩ rfl rfl K.sz_int rfl (by rw [deepR, List.getElem?_map, List.getElem?_range (by omega)]; rfl) (by decide) rfl 0 rfl ?_)
       clear h a w; intro a w h
       refine wnil ?_
       exact ⟨ringR j, h.keep [1, 6], by rw [if_pos ht2]; exact hd2⟩
     ·
      refine c_skip ?_
      exact ⟨deepR j, h.keep [1, 6], by rw [if_neg ht2]; exact hd1⟩
    ·
     clear h a w; intro z a w hz h
     obtain ⟨c, hc⟩ : ∃ c, c = z := ⟨_, rfl⟩
     rw [← hc] at h hz
     refine c_seq (c_region ?_)
     refine wv h (r_move h rfl) rfl ?_
     clear h a w; intro a w h
     refine wl rfl (op_call h rfl K.go_rules_Check (rules_Check s _ _ _ _ (by first | exact Views.own 0 rfl | exact Views.own 1 rfl | exact Views.own 2 rfl | exact Views.own 3 rfl | exact Views.own 4 rfl | exact Views.own 5 rfl | assumption | exact Views.of_drop 1 (by assumption) | exact Views.of_drop 2 (by assumption) | exact Views.of_drop 3 (by assumption) | exact Views.of_drop 4 (by assumption) | exact Views.of_drop 5 (by assumption) | exact Views.of_drop 6 (by assumption) | exact Views.of_drop 7 (by assumption) | exact Views.of_drop 8 (by assumption) | exact Views.of_drop 9 (by assumption) | exact Views.of_drop 10 (by assumption) | exact Views.of_drop 11 (by assumption) | exact Views.of_drop 12 (by assumption)) h.2) rfl ?_)
     clear h a w; intro x a w hx h
     (try simp only [List.set_cons_zero, List.set_cons_succ] at h)
     refine wl rfl (op_alloc h K.z_api_Fault rfl ?_)
     clear h a w; intro b8 a w h
     first
          | (refine wl rfl (op_stA h rfl rfl K.sz_api_Fault (by first | exact Row.len _ | rfl | assumption | (simp; done) | (simp; omega) | omega) (by first | exact Row.one _ | exact bs_one _ | assumption | (simp; done) | (simp; (repeat' apply And.intro) <;> first | rfl | assumption)) 0 rfl (by first | rfl | assumption | (simp; done) | (simp; omega) | omega) ?_))
          | (refine wl rfl (op_stA h rfl rfl K.sz_api_Fault (by first | exact Row.len _ | rfl | assumption | (simp; done) | (simp; omega) | omega) (by first | exact Row.one _ | exact bs_one _ | assumption | (simp; done) | (simp; (repeat' apply And.intro) <;> first | rfl | assumption)) 1 rfl (by first | rfl | assumption | (simp; done) | (simp; omega) | omega) ?_))
          | (refine wl rfl (op_stA h rfl rfl K.sz_api_Fault (by first | exact Row.len _ | rfl | assumption | (simp; done) | (simp; omega) | omega) (by first | exact Row.one _ | exact bs_one _ | assumption | (simp; done) | (simp; (repeat' apply And.intro) <;> first | rfl | assumption)) 2 rfl (by first | rfl | assumption | (simp; done) | (simp; omega) | omega) ?_))
          | (refine wl rfl (op_stA h rfl rfl K.sz_api_Fault (by first | exact Row.len _ | rfl | assumption | (simp; done) | (simp; omega) | omega) (by first | exact Row.one _ | exact bs_one _ | assumption | (simp; done) | (simp; (repeat' apply And.intro) <;> first | rfl | assumption)) 3 rfl (by first | rfl | assumption | (simp; done) | (simp; omega) | omega) ?_))
          | (refine wl rfl (op_stA h rfl rfl K.sz_api_Fault (by first | exact Row.len _ | rfl | assumption | (simp; done) | (simp; omega) | omega) (by first | exact Row.one _ | exact bs_one _ | assumption | (simp; done) | (simp; (repeat' apply And.intro) <;> first | rfl | assumption)) 4 rfl (by first | rfl | assumption | (simp; done) | (simp; omega) | omega) ?_))
          | (refine wl rfl (op_stA h rfl rfl K.sz_api_Fault (by first | exact Row.len _ | rfl | assumption | (simp; done) | (simp; omega) | omega) (by first | exact Row.one _ | exact bs_one _ | assumption | (simp; done) | (simp; (repeat' apply And.intro) <;> first | rfl | assumption)) 5 rfl (by first | rfl | assumption | (simp; done) | (simp; omega) | omega) ?_))
     clear h a w; intro a w h
     (try simp only [List.set_cons_zero, List.set_cons_succ] at h)
     refine wnil (c_then ?_)
     refine c_seq ?_
     refine c_seq (c_region ?_)
     refine wv h (r_move h rfl) rfl ?_
     clear h a w; intro a w h
     refine wnil (c_then ?_)
     first
      | refine c_condD h rfl (fun ht3 => ?_) (fun ht3 => ?_)
      | refine c_condP h rfl (by first | (simp only [Bool.and_eq_true, Bool.or_eq_true, Bool.not_eq_true', decide_eq_true_eq, decide_eq_false_iff_not, ne_eq, Bool.not_eq_eq_eq_not, Bool.not_true, beq_iff_eq, bne_iff_ne]; exact Iff.rfl) | exact Iff.rfl) (fun ht3 => ?_) (fun ht3 => ?_)
     ·
      rw [if_pos ht3] at hz
      rw [hz] at h
      as_aux_lemma =>
       refine c_seq (c_region ?_)
       refine wl rfl (op_call h rfl K.go_law11_awake (law11_awake s _ _ h.2) rfl ?_)
       clear h a w; intro x a w hx h
       (try simp only [List.set_cons_zero, List.set_cons_succ] at h)
       refine wv h (r_move h rfl) rfl ?_
       clear h a w; intro a w h
       refine wvG h (by first | exact .t rfl | exact .f rfl | exact .gt rfl | exact .gf rfl) (fun hg => by (try simp only [↓gval_on hg, ↓gval_and hg] at h); (have hg2 := hg; (try simp only [Bool.and_eq_true, Bool.or_eq_true, Bool.not_eq_true', decide_eq_true_eq, decide_eq_false_iff_not] at hg2)); first | exact r_ldA h rfl K.u_api_Fault rfl K.sz_api_Fault 0 rfl (by first | exact Row.len _ | rfl | assumption | (simp; done) | (simp; omega) | omega) | exact r_ldA h rfl K.u_api_Fault rfl K.sz_api_Fault 1 rfl (by first | exact Row.len _ | rfl | assumption | (simp; done) | (simp; omega) | omega) | exact r_ldA h rfl K.u_api_Fault rfl K.sz_api_Fault 2 rfl (by first | exact Row.len _ | rfl | assumption | (simp; done) | (simp; omega) | omega) | exact r_ldA h rfl K.u_api_Fault rfl K.sz_api_Fault 3 rfl (by first | exact Row.len _ | rfl | assumption | (simp; done) | (simp; omega) | omega) | exact r_ldA h rfl K.u_api_Fault rfl K.sz_api_Fault 4 rfl (by first | exact Row.len _ | rfl | assumption | (simp; done) | (simp; omega) | omega) | exact r_ldA h rfl K.u_api_Fault rfl K.sz_api_Fault 5 rfl (by first | exact Row.len _ | rfl | assumption | (simp; done) | (simp; omega) | omega) | exact r_loadCA h rfl K.u_api_Fault rfl K.sz_api_Fault (by assumption) (by first | rfl | assumption | (simp; done) | (simp; omega) | omega)) rfl ?_
       clear h a w; intro a w h
       refine wvg h (r_build (cells := fC 5 1) h K.u_api_Fault K.z_api_Fault K.pl_api_Fault rfl (by kernel_rfl)) rfl rfl ?_
       clear h a w; intro a w h
       refine wvg h (r_faulteq h rfl rfl) rfl rfl ?_
       clear h a w; intro a w h
       first
              | (refine wv h (r_pickA h rfl rfl rfl) rfl ?_)
              | (refine wv h (r_pickO h rfl rfl rfl) rfl ?_)
              | (refine wv h (r_pick_true h rfl rfl) rfl ?_)
              | (refine wv h (r_pick_false h rfl rfl) rfl ?_)
              | (refine wv h (r_pick h rfl rfl rfl) rfl ?_)
       clear h a w; intro a w h
       refine wv h (r_assign h rfl) rfl ?_
       clear h a w; intro a w h
       refine wnil (c_then ?_)
       refine c_ret ?_
       exact ret1 h rfl rfl ⟨(), ret_true (by simp), (by first | exact h.2 | exact h.2.drop 1 | exact h.2.drop 2 | exact h.2.drop 3 | exact h.2.drop 4 | exact h.2.drop 5 | exact h.2.drop 6 | exact h.2.drop 7 | exact h.2.drop 8 | exact h.2.drop 9 | exact h.2.drop 10 | exact h.2.drop 11 | exact h.2.drop 12 | exact h.2.drop 13 | exact h.2.drop 14 | exact h.2.drop 15 | exact h.2.drop 16), trivial⟩
     ·
      rw [if_neg ht3] at hz
      rw [hz] at h
      refine c_skip ?_
      refine c_then ?_
      refine c_seq (c_region ?_)
      refine wl rfl (op_call h rfl K.go_law11_awake (law11_awake s _ _ h.2) rfl ?_)
      clear h a w; intro x a w hx h
      (try simp only [List.set_cons_zero, List.set_cons_succ] at h)
      refine wv h (r_move h rfl) rfl ?_
      clear h a w; intro a w h
      refine wvG h (by first | exact .t rfl | exact .f rfl | exact .gt rfl | exact .gf rfl) (fun hg => by (try simp only [↓gval_on hg, ↓gval_and hg] at h); (have hg2 := hg; (try simp only [Bool.and_eq_true, Bool.or_eq_true, Bool.not_eq_true', decide_eq_true_eq, decide_eq_false_iff_not] at hg2)); first | exact r_fieldAddr0 h rfl K.u_api_Fault rfl K.sz_int rfl rfl) rfl ?_
      clear h a w; intro a w h
      refine wvG h (by first | exact .t rfl | exact .f rfl | exact .gt rfl | exact .gf rfl) (fun hg => by (try simp only [↓gval_on hg, ↓gval_and hg] at h); (have hg2 := hg; (try simp only [Bool.and_eq_true, Bool.or_eq_true, Bool.not_eq_true', decide_eq_true_eq, decide_eq_false_iff_not] at hg2)); first | exact r_ldN h rfl K.u_int rfl 0 rfl rfl | exact r_ldN h rfl K.u_int rfl 1 rfl rfl | exact r_ldN h rfl K.u_int rfl 2 rfl rfl | exact r_ldN h rfl K.u_int rfl 3 rfl rfl | exact r_ldN h rfl K.u_int rfl 4 rfl rfl | exact r_ldN h rfl K.u_int rfl 5 rfl rfl | exact r_ldN h rfl K.u_int rfl 6 rfl rfl | exact r_ldC (o := 0) h rfl K.u_int rfl 0 rfl | exact r_ldC (o := 0) h rfl K.u_int rfl 1 rfl | exact r_ldC (o := 0) h rfl K.u_int rfl 2 rfl | exact r_ldC (o := 0) h rfl K.u_int rfl 3 rfl | exact r_ldC (o := 0) h rfl K.u_int rfl 4 rfl | exact r_ldC (o := 0) h rfl K.u_int rfl 5 rfl | exact r_ldC (o := 0) h rfl K.u_int rfl 6 rfl | exact r_load h rfl K.u_int rfl 0 rfl rfl | exact r_load h rfl K.u_int rfl 1 rfl rfl | exact r_load h rfl K.u_int rfl 2 rfl rfl | exact r_load h rfl K.u_int rfl 3 rfl rfl | exact r_load h rfl K.u_int rfl 4 rfl rfl | exact r_load h rfl K.u_int rfl 5 rfl rfl | exact r_load1 h rfl K.u_int rfl (by assumption)) rfl ?_
      clear h a w; intro a w h
      refine wvG h (by first | exact .t rfl | exact .f rfl | exact .gt rfl | exact .gf rfl) (fun hg => by (try simp only [↓gval_on hg, ↓gval_and hg] at h); (have hg2 := hg; (try simp only [Bool.and_eq_true, Bool.or_eq_true, Bool.not_eq_true', decide_eq_true_eq, decide_eq_false_iff_not] at hg2)); first | exact r_bin h rfl rfl (B.eql_int)) rfl ?_
      clear h a w; intro a w h
      first
            | (refine wv h (r_pickA h rfl rfl rfl) rfl ?_)
            | (refine wv h (r_pickO h rfl rfl rfl) rfl ?_)
            | (refine wv h (r_pick_true h rfl rfl) rfl ?_)
            | (refine wv h (r_pick_false h rfl rfl) rfl ?_)
            | (refine wv h (r_pick h rfl rfl rfl) rfl ?_)
      clear h a w; intro a w h
      refine wv h (r_assign h rfl) rfl ?_
      clear h a w; intro a w h
      refine wnil (c_then ?_)
      refine c_ret ?_
      exact ret1 h rfl rfl ⟨(), ret_true (by simp), (by first | exact h.2 | exact h.2.drop 1 | exact h.2.drop 2 | exact h.2.drop 3 | exact h.2.drop 4 | exact h.2.drop 5 | exact h.2.drop 6 | exact h.2.drop 7 | exact h.2.drop 8 | exact h.2.drop 9 | exact h.2.drop 10 | exact h.2.drop 11 | exact h.2.drop 12 | exact h.2.drop 13 | exact h.2.drop 14 | exact h.2.drop 15 | exact h.2.drop 16), trivial⟩
end Go.Proofs.K
