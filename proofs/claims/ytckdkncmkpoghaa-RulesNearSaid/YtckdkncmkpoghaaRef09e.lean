/- The contract of the charts that are made of numbers. -/
import Derived.Test.YtckdkncmkpoghaaRef09b
set_option linter.unusedVariables false
set_option linter.unusedSimpArgs false
set_option maxRecDepth 10000
set_option maxHeartbeats 4000000
namespace Go.Proofs.K
open Go.Sl
attribute [local irreducible] Go.Sl.Own Go.Sl.Blk Go.Sl.Sep Go.Sl.Ex Go.Sl.Fact

theorem ref09_Make (s w : World) (v : Value) (l : List Ac) (F : List HItem) (hv : Views F 4 v l.length (l.flatMap cellsAc)) (hs : Sat s w F) :
    Calls P n_ref09_Make #[v] w (Ret s (fun x : Value × List El => x.1) (fun x => OwnM 10 cellsE x.1 x.2 :: F) (fun x => checkR x.2 = (0, 0))) := by
  have hlen := Views.len_le hv hs
  refine enter K.fn_ref09_Make rfl K.nt_ref09_Make rfl hs ?_
  clear hs w; intro a w h
  refine c_seq (c_region ?_)
  refine wv h (r_assign h rfl) rfl ?_
  clear h a w; intro a w h
  refine wnil (c_then ?_)
  refine c_seq (c_region ?_)
  refine wv h (r_assign h rfl) rfl ?_
  clear h a w; intro a w h
  refine wnil (c_then ?_)
  refine c_seq ?_
  refine c_seq (c_region ?_)
  refine wv h (r_assign h rfl) rfl ?_
  clear h a w; intro a w h
  refine wnil (c_then ?_)
  refine c_block ?_
  refine c_loopX ⟨h.1, (h.addNilM (size := 10) (cells := cellsE)).2⟩ (X := Nat × Value × List El) (fun x => [(0, v), (3, x.2.1), (4, .int .i64 (x.1 : Int))]) (fun x => OwnM 10 cellsE x.2.1 x.2.2 :: F)
    (fun x => x.1 ≤ l.length ∧ checkR x.2.2 = (0, 0)) (fun x => l.length - x.1) (0, .slice none 0 0, []) ((h.addNilM (size := 10) (cells := cellsE)).keep [0, 3, 4]) ⟨Nat.zero_le _, checkR_nil⟩ ?_
  clear h a w; intro x a w hx h
  obtain ⟨i, cv, c⟩ := x
  obtain ⟨hx1, hx2⟩ := hx
  dsimp only at hx1 hx2 h
  have hcl : c.length ≤ 40 := (checkR_right hx2).2.1
  as_aux_lemma =>
   refine c_seq ?_
   refine c_seq (c_region ?_)
   refine wv h (r_move h rfl) rfl ?_
   clear h a w; intro a w h
   refine wv h (r_move h rfl) rfl ?_
   clear h a w; intro a w h
   refine wv h (r_lenV h rfl K.u_S_interleafref09_Act (by first | exact Views.own 0 rfl | exact Views.own 1 rfl | exact Views.own 2 rfl | exact Views.own 3 rfl | exact Views.own 4 rfl | exact Views.own 5 rfl | assumption | exact Views.of_drop 1 (by assumption) | exact Views.of_drop 2 (by assumption) | exact Views.of_drop 3 (by assumption) | exact Views.of_drop 4 (by assumption) | exact Views.of_drop 5 (by assumption) | exact Views.of_drop 6 (by assumption) | exact Views.of_drop 7 (by assumption) | exact Views.of_drop 8 (by assumption) | exact Views.of_drop 9 (by assumption) | exact Views.of_drop 10 (by assumption) | exact Views.of_drop 11 (by assumption) | exact Views.of_drop 12 (by assumption))) rfl ?_
   clear h a w; intro a w h
   refine wv h (r_bin h rfl rfl (B.lss_int)) rfl ?_
   clear h a w; intro a w h
   refine wv h (r_move h rfl) rfl ?_
   clear h a w; intro a w h
   refine wvG h (by first | exact .t rfl | exact .f rfl | exact .gt rfl | exact .gf rfl) (fun hg => by (try simp only [↓gval_on hg, ↓gval_and hg] at h); (have hg2 := hg; (try simp only [Bool.and_eq_true, Bool.or_eq_true, Bool.not_eq_true', decide_eq_true_eq, decide_eq_false_iff_not] at hg2)); first | exact r_move h rfl) rfl ?_
   clear h a w; intro a w h
   refine wvG h (by first | exact .t rfl | exact .f rfl | exact .gt rfl | exact .gf rfl) (fun hg => by (try simp only [↓gval_on hg, ↓gval_and hg] at h); (have hg2 := hg; (try simp only [Bool.and_eq_true, Bool.or_eq_true, Bool.not_eq_true', decide_eq_true_eq, decide_eq_false_iff_not] at hg2)); first | exact r_bin h rfl rfl (B.lss_int)) rfl ?_
   clear h a w; intro a w h
   first
      | (refine wv h (r_pickA h rfl rfl rfl) rfl ?_)
      | (refine wv h (r_pickO h rfl rfl rfl) rfl ?_)
      | (refine wv h (r_pick_true h rfl rfl) rfl ?_)
      | (refine wv h (r_pick_false h rfl rfl) rfl ?_)
      | (refine wv h (r_pick h rfl rfl rfl) rfl ?_)
   clear h a w; intro a w h
   refine wnil (c_then ?_)
   first
    | refine c_condD h rfl (fun ht1 => ?_) (fun ht1 => ?_)
    | refine c_condP h rfl (by first | (simp only [Bool.and_eq_true, Bool.or_eq_true, Bool.not_eq_true', decide_eq_true_eq, decide_eq_false_iff_not, ne_eq, Bool.not_eq_eq_eq_not, Bool.not_true, beq_iff_eq, bne_iff_ne]; exact Iff.rfl) | exact Iff.rfl) (fun ht1 => ?_) (fun ht1 => ?_)
   ·
    obtain ⟨ac, hex⟩ : ∃ x, l[i]? = some x := ⟨l[i]'(by omega), by simp⟩
    have q1 : (ac.a % 30).toNat < 30 := by rw [UInt8.toNat_mod]; exact Nat.mod_lt _ (by decide)
    have q2 : (ac.b % 30).toNat < 30 := by rw [UInt8.toNat_mod]; exact Nat.mod_lt _ (by decide)
    have q3 : (ac.c % 30).toNat < 30 := by rw [UInt8.toNat_mod]; exact Nat.mod_lt _ (by decide)
    refine c_skip ?_
    refine c_then ?_
    refine c_seq ?_
    refine c_block ?_
    refine c_seq (c_region ?_)
    refine wv h (r_move h rfl) rfl ?_
    clear h a w; intro a w h
    refine wv h (r_move h rfl) rfl ?_
    clear h a w; intro a w h
    refine wv h (r_elP h rfl rfl K.u_S_interleafref09_Act K.sz_interleafref09_Act (by first | exact Views.own 0 rfl | exact Views.own 1 rfl | exact Views.own 2 rfl | exact Views.own 3 rfl | exact Views.own 4 rfl | exact Views.own 5 rfl | assumption | exact Views.of_drop 1 (by assumption) | exact Views.of_drop 2 (by assumption) | exact Views.of_drop 3 (by assumption) | exact Views.of_drop 4 (by assumption) | exact Views.of_drop 5 (by assumption) | exact Views.of_drop 6 (by assumption) | exact Views.of_drop 7 (by assumption) | exact Views.of_drop 8 (by assumption) | exact Views.of_drop 9 (by assumption) | exact Views.of_drop 10 (by assumption) | exact Views.of_drop 11 (by assumption) | exact Views.of_drop 12 (by assumption)) (by first | omega | (simp; done)) (by first | omega | (simp only [List.length_cons, List.length_nil]; omega) | (simp; done) | (simp; omega))) rfl ?_
    clear h a w; intro a w h
    first
        | (refine wv h (r_elM h rfl K.u_interleafref09_Act rfl K.sz_interleafref09_Act rfl (by first | exact Views.own 0 rfl | exact Views.own 1 rfl | exact Views.own 2 rfl | exact Views.own 3 rfl | exact Views.own 4 rfl | exact Views.own 5 rfl | assumption | exact Views.of_drop 1 (by assumption) | exact Views.of_drop 2 (by assumption) | exact Views.of_drop 3 (by assumption) | exact Views.of_drop 4 (by assumption) | exact Views.of_drop 5 (by assumption) | exact Views.of_drop 6 (by assumption) | exact Views.of_drop 7 (by assumption) | exact Views.of_drop 8 (by assumption) | exact Views.of_drop 9 (by assumption) | exact Views.of_drop 10 (by assumption) | exact Views.of_drop 11 (by assumption) | exact Views.of_drop 12 (by assumption)) (by assumption)) rfl ?_)
        | (refine wv h (r_elMd h rfl K.u_interleafref09_Act rfl K.sz_interleafref09_Act rfl (by first | exact Views.own 0 rfl | exact Views.own 1 rfl | exact Views.own 2 rfl | exact Views.own 3 rfl | exact Views.own 4 rfl | exact Views.own 5 rfl | assumption | exact Views.of_drop 1 (by assumption) | exact Views.of_drop 2 (by assumption) | exact Views.of_drop 3 (by assumption) | exact Views.of_drop 4 (by assumption) | exact Views.of_drop 5 (by assumption) | exact Views.of_drop 6 (by assumption) | exact Views.of_drop 7 (by assumption) | exact Views.of_drop 8 (by assumption) | exact Views.of_drop 9 (by assumption) | exact Views.of_drop 10 (by assumption) | exact Views.of_drop 11 (by assumption) | exact Views.of_drop 12 (by assumption)) (by first | omega | (simp only [List.length_cons, List.length_nil]; omega) | (simp; done) | (simp; omega))) rfl ?_)
    clear h a w; intro a w h
    refine wl rfl (op_alloc h K.z_interleafref09_Act rfl ?_)
    clear h a w; intro b5 a w h
    first
        | (refine wl rfl (op_stA h rfl rfl K.sz_interleafref09_Act (by first | exact Row.len _ | rfl | assumption | (simp; done) | (simp; omega) | omega) (by first | exact Row.one _ | exact bs_one _ | assumption | (simp; done) | (simp; (repeat' apply And.intro) <;> first | rfl | assumption)) 0 rfl (by first | rfl | assumption | (simp; done) | (simp; omega) | omega) ?_))
        | (refine wl rfl (op_stA h rfl rfl K.sz_interleafref09_Act (by first | exact Row.len _ | rfl | assumption | (simp; done) | (simp; omega) | omega) (by first | exact Row.one _ | exact bs_one _ | assumption | (simp; done) | (simp; (repeat' apply And.intro) <;> first | rfl | assumption)) 1 rfl (by first | rfl | assumption | (simp; done) | (simp; omega) | omega) ?_))
        | (refine wl rfl (op_stA h rfl rfl K.sz_interleafref09_Act (by first | exact Row.len _ | rfl | assumption | (simp; done) | (simp; omega) | omega) (by first | exact Row.one _ | exact bs_one _ | assumption | (simp; done) | (simp; (repeat' apply And.intro) <;> first | rfl | assumption)) 2 rfl (by first | rfl | assumption | (simp; done) | (simp; omega) | omega) ?_))
        | (refine wl rfl (op_stA h rfl rfl K.sz_interleafref09_Act (by first | exact Row.len _ | rfl | assumption | (simp; done) | (simp; omega) | omega) (by first | exact Row.one _ | exact bs_one _ | assumption | (simp; done) | (simp; (repeat' apply And.intro) <;> first | rfl | assumption)) 3 rfl (by first | rfl | assumption | (simp; done) | (simp; omega) | omega) ?_))
        | (refine wl rfl (op_stA h rfl rfl K.sz_interleafref09_Act (by first | exact Row.len _ | rfl | assumption | (simp; done) | (simp; omega) | omega) (by first | exact Row.one _ | exact bs_one _ | assumption | (simp; done) | (simp; (repeat' apply And.intro) <;> first | rfl | assumption)) 4 rfl (by first | rfl | assumption | (simp; done) | (simp; omega) | omega) ?_))
        | (refine wl rfl (op_stA h rfl rfl K.sz_interleafref09_Act (by first | exact Row.len _ | rfl | assumption | (simp; done) | (simp; omega) | omega) (by first | exact Row.one _ | exact bs_one _ | assumption | (simp; done) | (simp; (repeat' apply And.intro) <;> first | rfl | assumption)) 5 rfl (by first | rfl | assumption | (simp; done) | (simp; omega) | omega) ?_))
    clear h a w; intro a w h
    (try simp only [List.set_cons_zero, List.set_cons_succ] at h)
    refine wnil (c_then ?_)
    refine c_seq (c_region ?_)
    refine wv h (r_fieldAddr h 1 rfl K.u_interleafref09_Act rfl K.sz_uint8 rfl rfl) rfl ?_
    clear h a w; intro a w h
    first
        | (refine wv h (r_ldN h rfl K.u_uint8 rfl 0 rfl rfl) rfl ?_)
        | (refine wv h (r_ldN h rfl K.u_uint8 rfl 1 rfl rfl) rfl ?_)
        | (refine wv h (r_ldN h rfl K.u_uint8 rfl 2 rfl rfl) rfl ?_)
        | (refine wv h (r_ldN h rfl K.u_uint8 rfl 3 rfl rfl) rfl ?_)
        | (refine wv h (r_ldN h rfl K.u_uint8 rfl 4 rfl rfl) rfl ?_)
        | (refine wv h (r_ldN h rfl K.u_uint8 rfl 5 rfl rfl) rfl ?_)
        | (refine wv h (r_ldN h rfl K.u_uint8 rfl 6 rfl rfl) rfl ?_)
        | (refine wv h (r_ldC (o := 1) h rfl K.u_uint8 rfl 0 rfl) rfl ?_)
        | (refine wv h (r_ldC (o := 1) h rfl K.u_uint8 rfl 1 rfl) rfl ?_)
        | (refine wv h (r_ldC (o := 1) h rfl K.u_uint8 rfl 2 rfl) rfl ?_)
        | (refine wv h (r_ldC (o := 1) h rfl K.u_uint8 rfl 3 rfl) rfl ?_)
        | (refine wv h (r_ldC (o := 1) h rfl K.u_uint8 rfl 4 rfl) rfl ?_)
        | (refine wv h (r_ldC (o := 1) h rfl K.u_uint8 rfl 5 rfl) rfl ?_)
        | (refine wv h (r_ldC (o := 1) h rfl K.u_uint8 rfl 6 rfl) rfl ?_)
        | (refine wv h (r_load h rfl K.u_uint8 rfl 0 rfl rfl) rfl ?_)
        | (refine wv h (r_load h rfl K.u_uint8 rfl 1 rfl rfl) rfl ?_)
        | (refine wv h (r_load h rfl K.u_uint8 rfl 2 rfl rfl) rfl ?_)
        | (refine wv h (r_load h rfl K.u_uint8 rfl 3 rfl rfl) rfl ?_)
        | (refine wv h (r_load h rfl K.u_uint8 rfl 4 rfl rfl) rfl ?_)
        | (refine wv h (r_load h rfl K.u_uint8 rfl 5 rfl rfl) rfl ?_)
        | (refine wv h (r_load1 h rfl K.u_uint8 rfl (by assumption)) rfl ?_)
    clear h a w; intro a w h
    refine wv h (r_bin h rfl rfl (B.rem_u8 (y := 30) (by decide))) rfl ?_
    clear h a w; intro a w h
    refine wv h (r_conv h rfl K.u_uint8 K.u_int (C.i64_u8) ) rfl ?_
    clear h a w; intro a w h
    refine wv h (r_bin h rfl rfl (B.add_i64 (by omega) (by omega))) rfl ?_
    clear h a w; intro a w h
    refine wv h (r_fieldAddr0 h rfl K.u_interleafref09_Act rfl K.sz_uint8 rfl rfl) rfl ?_
    clear h a w; intro a w h
    first
        | (refine wv h (r_ldN h rfl K.u_uint8 rfl 0 rfl rfl) rfl ?_)
        | (refine wv h (r_ldN h rfl K.u_uint8 rfl 1 rfl rfl) rfl ?_)
        | (refine wv h (r_ldN h rfl K.u_uint8 rfl 2 rfl rfl) rfl ?_)
        | (refine wv h (r_ldN h rfl K.u_uint8 rfl 3 rfl rfl) rfl ?_)
        | (refine wv h (r_ldN h rfl K.u_uint8 rfl 4 rfl rfl) rfl ?_)
        | (refine wv h (r_ldN h rfl K.u_uint8 rfl 5 rfl rfl) rfl ?_)
        | (refine wv h (r_ldN h rfl K.u_uint8 rfl 6 rfl rfl) rfl ?_)
        | (refine wv h (r_ldC (o := 0) h rfl K.u_uint8 rfl 0 rfl) rfl ?_)
        | (refine wv h (r_ldC (o := 0) h rfl K.u_uint8 rfl 1 rfl) rfl ?_)
        | (refine wv h (r_ldC (o := 0) h rfl K.u_uint8 rfl 2 rfl) rfl ?_)
        | (refine wv h (r_ldC (o := 0) h rfl K.u_uint8 rfl 3 rfl) rfl ?_)
        | (refine wv h (r_ldC (o := 0) h rfl K.u_uint8 rfl 4 rfl) rfl ?_)
        | (refine wv h (r_ldC (o := 0) h rfl K.u_uint8 rfl 5 rfl) rfl ?_)
        | (refine wv h (r_ldC (o := 0) h rfl K.u_uint8 rfl 6 rfl) rfl ?_)
        | (refine wv h (r_load h rfl K.u_uint8 rfl 0 rfl rfl) rfl ?_)
        | (refine wv h (r_load h rfl K.u_uint8 rfl 1 rfl rfl) rfl ?_)
        | (refine wv h (r_load h rfl K.u_uint8 rfl 2 rfl rfl) rfl ?_)
        | (refine wv h (r_load h rfl K.u_uint8 rfl 3 rfl rfl) rfl ?_)
        | (refine wv h (r_load h rfl K.u_uint8 rfl 4 rfl rfl) rfl ?_)
        | (refine wv h (r_load h rfl K.u_uint8 rfl 5 rfl rfl) rfl ?_)
        | (refine wv h (r_load1 h rfl K.u_uint8 rfl (by assumption)) rfl ?_)
    clear h a w; intro a w h
    refine wv h (r_bin h rfl rfl (B.rem_u8 (y := 5) (by decide))) rfl ?_
    clear h a w; intro a w h
    refine wv h (r_bin h rfl rfl (B.add_u8 (x := 1))) rfl ?_
    clear h a w; intro a w h
    refine wv h (r_fieldAddr h 3 rfl K.u_interleafref09_Act rfl K.sz_uint8 rfl rfl) rfl ?_
    clear h a w; intro a w h
    first
        | (refine wv h (r_ldN h rfl K.u_uint8 rfl 0 rfl rfl) rfl ?_)
        | (refine wv h (r_ldN h rfl K.u_uint8 rfl 1 rfl rfl) rfl ?_)
        | (refine wv h (r_ldN h rfl K.u_uint8 rfl 2 rfl rfl) rfl ?_)
        | (refine wv h (r_ldN h rfl K.u_uint8 rfl 3 rfl rfl) rfl ?_)
        | (refine wv h (r_ldN h rfl K.u_uint8 rfl 4 rfl rfl) rfl ?_)
        | (refine wv h (r_ldN h rfl K.u_uint8 rfl 5 rfl rfl) rfl ?_)
        | (refine wv h (r_ldN h rfl K.u_uint8 rfl 6 rfl rfl) rfl ?_)
        | (refine wv h (r_ldC (o := 3) h rfl K.u_uint8 rfl 0 rfl) rfl ?_)
        | (refine wv h (r_ldC (o := 3) h rfl K.u_uint8 rfl 1 rfl) rfl ?_)
        | (refine wv h (r_ldC (o := 3) h rfl K.u_uint8 rfl 2 rfl) rfl ?_)
        | (refine wv h (r_ldC (o := 3) h rfl K.u_uint8 rfl 3 rfl) rfl ?_)
        | (refine wv h (r_ldC (o := 3) h rfl K.u_uint8 rfl 4 rfl) rfl ?_)
        | (refine wv h (r_ldC (o := 3) h rfl K.u_uint8 rfl 5 rfl) rfl ?_)
        | (refine wv h (r_ldC (o := 3) h rfl K.u_uint8 rfl 6 rfl) rfl ?_)
        | (refine wv h (r_load h rfl K.u_uint8 rfl 0 rfl rfl) rfl ?_)
        | (refine wv h (r_load h rfl K.u_uint8 rfl 1 rfl rfl) rfl ?_)
        | (refine wv h (r_load h rfl K.u_uint8 rfl 2 rfl rfl) rfl ?_)
        | (refine wv h (r_load h rfl K.u_uint8 rfl 3 rfl rfl) rfl ?_)
        | (refine wv h (r_load h rfl K.u_uint8 rfl 4 rfl rfl) rfl ?_)
        | (refine wv h (r_load h rfl K.u_uint8 rfl 5 rfl rfl) rfl ?_)
        | (refine wv h (r_load1 h rfl K.u_uint8 rfl (by assumption)) rfl ?_)
    clear h a w; intro a w h
    refine wv h (r_bin h rfl rfl (B.rem_u8 (y := 4) (by decide))) rfl ?_
    clear h a w; intro a w h
    refine wv h (r_conv h rfl K.u_uint8 K.u_int (C.i64_u8) ) rfl ?_
    clear h a w; intro a w h
    refine wv h (r_build (cells := ⟨cellsE ⟨1 + ((ac.a % 30).toNat : Int), 1 + ac.k % 5, 0, ((ac.c % 4).toNat : Int), [], 0, 0, [], [], []⟩⟩) h K.u_api_Elem K.z_api_Elem K.pl_api_Elem rfl (by kernel_rfl)) rfl ?_
    clear h a w; intro a w h
    refine wl rfl (op_alloc h K.z_api_Elem rfl ?_)
    clear h a w; intro b6 a w h
    first
        | (refine wl rfl (op_stA h rfl rfl K.sz_api_Elem (by first | exact Row.len _ | rfl | assumption | (simp; done) | (simp; omega) | omega) (by first | exact Row.one _ | exact bs_one _ | assumption | (simp; done) | (simp; (repeat' apply And.intro) <;> first | rfl | assumption)) 0 rfl (by first | rfl | assumption | (simp; done) | (simp; omega) | omega) ?_))
        | (refine wl rfl (op_stA h rfl rfl K.sz_api_Elem (by first | exact Row.len _ | rfl | assumption | (simp; done) | (simp; omega) | omega) (by first | exact Row.one _ | exact bs_one _ | assumption | (simp; done) | (simp; (repeat' apply And.intro) <;> first | rfl | assumption)) 1 rfl (by first | rfl | assumption | (simp; done) | (simp; omega) | omega) ?_))
        | (refine wl rfl (op_stA h rfl rfl K.sz_api_Elem (by first | exact Row.len _ | rfl | assumption | (simp; done) | (simp; omega) | omega) (by first | exact Row.one _ | exact bs_one _ | assumption | (simp; done) | (simp; (repeat' apply And.intro) <;> first | rfl | assumption)) 2 rfl (by first | rfl | assumption | (simp; done) | (simp; omega) | omega) ?_))
        | (refine wl rfl (op_stA h rfl rfl K.sz_api_Elem (by first | exact Row.len _ | rfl | assumption | (simp; done) | (simp; omega) | omega) (by first | exact Row.one _ | exact bs_one _ | assumption | (simp; done) | (simp; (repeat' apply And.intro) <;> first | rfl | assumption)) 3 rfl (by first | rfl | assumption | (simp; done) | (simp; omega) | omega) ?_))
        | (refine wl rfl (op_stA h rfl rfl K.sz_api_Elem (by first | exact Row.len _ | rfl | assumption | (simp; done) | (simp; omega) | omega) (by first | exact Row.one _ | exact bs_one _ | assumption | (simp; done) | (simp; (repeat' apply And.intro) <;> first | rfl | assumption)) 4 rfl (by first | rfl | assumption | (simp; done) | (simp; omega) | omega) ?_))
        | (refine wl rfl (op_stA h rfl rfl K.sz_api_Elem (by first | exact Row.len _ | rfl | assumption | (simp; done) | (simp; omega) | omega) (by first | exact Row.one _ | exact bs_one _ | assumption | (simp; done) | (simp; (repeat' apply And.intro) <;> first | rfl | assumption)) 5 rfl (by first | rfl | assumption | (simp; done) | (simp; omega) | omega) ?_))
    clear h a w; intro a w h
    (try simp only [List.set_cons_zero, List.set_cons_succ] at h)
    refine wnil (c_then ?_)
    refine c_seq ?_
    refine c_seq (c_region ?_)
    refine wv h (r_move h rfl) rfl ?_
    clear h a w; intro a w h
    refine wv h (r_fieldAddr0 h rfl K.u_api_Elem rfl K.sz_int rfl rfl) rfl ?_
    clear h a w; intro a w h
    first
        | (refine wv h (r_ldN h rfl K.u_int rfl 0 rfl rfl) rfl ?_)
        | (refine wv h (r_ldN h rfl K.u_int rfl 1 rfl rfl) rfl ?_)
        | (refine wv h (r_ldN h rfl K.u_int rfl 2 rfl rfl) rfl ?_)
        | (refine wv h (r_ldN h rfl K.u_int rfl 3 rfl rfl) rfl ?_)
        | (refine wv h (r_ldN h rfl K.u_int rfl 4 rfl rfl) rfl ?_)
        | (refine wv h (r_ldN h rfl K.u_int rfl 5 rfl rfl) rfl ?_)
        | (refine wv h (r_ldN h rfl K.u_int rfl 6 rfl rfl) rfl ?_)
        | (refine wv h (r_ldC (o := 0) h rfl K.u_int rfl 0 rfl) rfl ?_)
        | (refine wv h (r_ldC (o := 0) h rfl K.u_int rfl 1 rfl) rfl ?_)
        | (refine wv h (r_ldC (o := 0) h rfl K.u_int rfl 2 rfl) rfl ?_)
        | (refine wv h (r_ldC (o := 0) h rfl K.u_int rfl 3 rfl) rfl ?_)
        | (refine wv h (r_ldC (o := 0) h rfl K.u_int rfl 4 rfl) rfl ?_)
        | (refine wv h (r_ldC (o := 0) h rfl K.u_int rfl 5 rfl) rfl ?_)
        | (refine wv h (r_ldC (o := 0) h rfl K.u_int rfl 6 rfl) rfl ?_)
        | (refine wv h (r_load h rfl K.u_int rfl 0 rfl rfl) rfl ?_)
        | (refine wv h (r_load h rfl K.u_int rfl 1 rfl rfl) rfl ?_)
        | (refine wv h (r_load h rfl K.u_int rfl 2 rfl rfl) rfl ?_)
        | (refine wv h (r_load h rfl K.u_int rfl 3 rfl rfl) rfl ?_)
        | (refine wv h (r_load h rfl K.u_int rfl 4 rfl rfl) rfl ?_)
        | (refine wv h (r_load h rfl K.u_int rfl 5 rfl rfl) rfl ?_)
        | (refine wv h (r_load1 h rfl K.u_int rfl (by assumption)) rfl ?_)
    clear h a w; intro a w h
    refine wl rfl (op_call h rfl K.go_ref09_Find (ref09_Find s _ _ _ _ _ (by first | exact Views.own 0 rfl | exact Views.own 1 rfl | exact Views.own 2 rfl | exact Views.own 3 rfl | exact Views.own 4 rfl | exact Views.own 5 rfl | assumption | exact Views.of_drop 1 (by assumption) | exact Views.of_drop 2 (by assumption) | exact Views.of_drop 3 (by assumption) | exact Views.of_drop 4 (by assumption) | exact Views.of_drop 5 (by assumption) | exact Views.of_drop 6 (by assumption) | exact Views.of_drop 7 (by assumption) | exact Views.of_drop 8 (by assumption) | exact Views.of_drop 9 (by assumption) | exact Views.of_drop 10 (by assumption) | exact Views.of_drop 11 (by assumption) | exact Views.of_drop 12 (by assumption)) h.2) rfl ?_)
    clear h a w; intro x a w hx h
    (try simp only [List.set_cons_zero, List.set_cons_succ] at h)
    refine wv h (r_bin h rfl rfl (B.geq_int)) rfl ?_
    clear h a w; intro a w h
    refine wnil (c_then ?_)
    first
     | refine c_condD h rfl (fun ht2 => ?_) (fun ht2 => ?_)
     | refine c_condP h rfl (by first | (simp only [Bool.and_eq_true, Bool.or_eq_true, Bool.not_eq_true', decide_eq_true_eq, decide_eq_false_iff_not, ne_eq, Bool.not_eq_eq_eq_not, Bool.not_true, beq_iff_eq, bne_iff_ne]; exact Iff.rfl) | exact Iff.rfl) (fun ht2 => ?_) (fun ht2 => ?_)
    ·
     as_aux_lemma =>
      refine c_exit ?_
      refine e_then ?_
      refine e_here ?_
      refine c_then ?_
      refine c_region ?_
      refine wv h (r_move h rfl) rfl ?_
      clear h a w; intro a w h
      refine wv h (r_bin h rfl rfl (B.add_i64 (by omega) (by omega))) rfl ?_
      clear h a w; intro a w h
      refine wv h (r_assign h rfl) rfl ?_
      clear h a w; intro a w h
      refine wnil ?_
      exact ⟨(i + 1, cv, c), (h.drop 2).keep [0, 3, 4], ⟨by show i + 1 ≤ l.length; omega, hx2⟩, by show l.length - (i + 1) < l.length - i; omega⟩
    ·
     have hid : 0 ≤ 1 + ((ac.a % 30).toNat : Int) := by omega
     generalize 1 + ((ac.a % 30).toNat : Int) = nid at h
     generalize 1 + ac.k % 5 = nk at h
     generalize ((ac.c % 4).toNat : Int) = no at h
     refine c_skip ?_
     refine c_then ?_
     refine c_meet h (X := El) (fun _ => [(0, v), (3, cv), (4, .int .i64 (i : Int)), (5, .pointer (some ⟨b5, 0, none⟩)), (6, .pointer (some ⟨b6, 0, none⟩))]) (fun e => Blk b6 (.cells ⟨cellsE e⟩ t_api_Elem) :: Blk b5 (.cells ⟨cellsAc ac⟩ t_interleafref09_Act) :: OwnM 10 cellsE cv c :: F) (fun _ => True) ?_ ?_
     ·
      refine c_seq (c_region ?_)
      refine wv h (r_fieldAddr h 1 rfl K.u_api_Elem rfl K.sz_uint8 rfl rfl) rfl ?_
      clear h a w; intro a w h
      first
            | (refine wv h (r_ldN h rfl K.u_uint8 rfl 0 rfl rfl) rfl ?_)
            | (refine wv h (r_ldN h rfl K.u_uint8 rfl 1 rfl rfl) rfl ?_)
            | (refine wv h (r_ldN h rfl K.u_uint8 rfl 2 rfl rfl) rfl ?_)
            | (refine wv h (r_ldN h rfl K.u_uint8 rfl 3 rfl rfl) rfl ?_)
            | (refine wv h (r_ldN h rfl K.u_uint8 rfl 4 rfl rfl) rfl ?_)
            | (refine wv h (r_ldN h rfl K.u_uint8 rfl 5 rfl rfl) rfl ?_)
            | (refine wv h (r_ldN h rfl K.u_uint8 rfl 6 rfl rfl) rfl ?_)
            | (refine wv h (r_ldC (o := 1) h rfl K.u_uint8 rfl 0 rfl) rfl ?_)
            | (refine wv h (r_ldC (o := 1) h rfl K.u_uint8 rfl 1 rfl) rfl ?_)
            | (refine wv h (r_ldC (o := 1) h rfl K.u_uint8 rfl 2 rfl) rfl ?_)
            | (refine wv h (r_ldC (o := 1) h rfl K.u_uint8 rfl 3 rfl) rfl ?_)
            | (refine wv h (r_ldC (o := 1) h rfl K.u_uint8 rfl 4 rfl) rfl ?_)
            | (refine wv h (r_ldC (o := 1) h rfl K.u_uint8 rfl 5 rfl) rfl ?_)
            | (refine wv h (r_ldC (o := 1) h rfl K.u_uint8 rfl 6 rfl) rfl ?_)
            | (refine wv h (r_load h rfl K.u_uint8 rfl 0 rfl rfl) rfl ?_)
            | (refine wv h (r_load h rfl K.u_uint8 rfl 1 rfl rfl) rfl ?_)
            | (refine wv h (r_load h rfl K.u_uint8 rfl 2 rfl rfl) rfl ?_)
            | (refine wv h (r_load h rfl K.u_uint8 rfl 3 rfl rfl) rfl ?_)
            | (refine wv h (r_load h rfl K.u_uint8 rfl 4 rfl rfl) rfl ?_)
            | (refine wv h (r_load h rfl K.u_uint8 rfl 5 rfl rfl) rfl ?_)
            | (refine wv h (r_load1 h rfl K.u_uint8 rfl (by assumption)) rfl ?_)
      clear h a w; intro a w h
      refine wv h (r_bin h rfl rfl (B.eql_u8 (y := 5))) rfl ?_
      clear h a w; intro a w h
      refine wnil (c_then ?_)
      first
       | refine c_condD h rfl (fun ht3 => ?_) (fun ht3 => ?_)
       | refine c_condP h rfl (by first | (simp only [Bool.and_eq_true, Bool.or_eq_true, Bool.not_eq_true', decide_eq_true_eq, decide_eq_false_iff_not, ne_eq, Bool.not_eq_eq_eq_not, Bool.not_true, beq_iff_eq, bne_iff_ne]; exact Iff.rfl) | exact Iff.rfl) (fun ht3 => ?_) (fun ht3 => ?_)
      ·
       as_aux_lemma =>
        refine c_seq (c_region ?_)
        refine wv h (r_fieldAddr h 2 rfl K.u_interleafref09_Act rfl K.sz_uint8 rfl rfl) rfl ?_
        clear h a w; intro a w h
        first
                | (refine wv h (r_ldN h rfl K.u_uint8 rfl 0 rfl rfl) rfl ?_)
                | (refine wv h (r_ldN h rfl K.u_uint8 rfl 1 rfl rfl) rfl ?_)
                | (refine wv h (r_ldN h rfl K.u_uint8 rfl 2 rfl rfl) rfl ?_)
                | (refine wv h (r_ldN h rfl K.u_uint8 rfl 3 rfl rfl) rfl ?_)
                | (refine wv h (r_ldN h rfl K.u_uint8 rfl 4 rfl rfl) rfl ?_)
                | (refine wv h (r_ldN h rfl K.u_uint8 rfl 5 rfl rfl) rfl ?_)
                | (refine wv h (r_ldN h rfl K.u_uint8 rfl 6 rfl rfl) rfl ?_)
                | (refine wv h (r_ldC (o := 2) h rfl K.u_uint8 rfl 0 rfl) rfl ?_)
                | (refine wv h (r_ldC (o := 2) h rfl K.u_uint8 rfl 1 rfl) rfl ?_)
                | (refine wv h (r_ldC (o := 2) h rfl K.u_uint8 rfl 2 rfl) rfl ?_)
                | (refine wv h (r_ldC (o := 2) h rfl K.u_uint8 rfl 3 rfl) rfl ?_)
                | (refine wv h (r_ldC (o := 2) h rfl K.u_uint8 rfl 4 rfl) rfl ?_)
                | (refine wv h (r_ldC (o := 2) h rfl K.u_uint8 rfl 5 rfl) rfl ?_)
                | (refine wv h (r_ldC (o := 2) h rfl K.u_uint8 rfl 6 rfl) rfl ?_)
                | (refine wv h (r_load h rfl K.u_uint8 rfl 0 rfl rfl) rfl ?_)
                | (refine wv h (r_load h rfl K.u_uint8 rfl 1 rfl rfl) rfl ?_)
                | (refine wv h (r_load h rfl K.u_uint8 rfl 2 rfl rfl) rfl ?_)
                | (refine wv h (r_load h rfl K.u_uint8 rfl 3 rfl rfl) rfl ?_)
                | (refine wv h (r_load h rfl K.u_uint8 rfl 4 rfl rfl) rfl ?_)
                | (refine wv h (r_load h rfl K.u_uint8 rfl 5 rfl rfl) rfl ?_)
                | (refine wv h (r_load1 h rfl K.u_uint8 rfl (by assumption)) rfl ?_)
        clear h a w; intro a w h
        refine wv h (r_bin h rfl rfl (B.rem_u8 (y := 30) (by decide))) rfl ?_
        clear h a w; intro a w h
        refine wv h (r_conv h rfl K.u_uint8 K.u_int (C.i64_u8) ) rfl ?_
        clear h a w; intro a w h
        refine wv h (r_bin h rfl rfl (B.add_i64 (by omega) (by omega))) rfl ?_
        clear h a w; intro a w h
        refine wv h (r_fieldAddr h 5 rfl K.u_api_Elem rfl K.sz_int rfl rfl) rfl ?_
        clear h a w; intro a w h
        first
                | (refine wl rfl (op_storeN h rfl rfl K.sz_int (by first | rfl | assumption | exact Views.oneCell (Views.own 0 rfl) h.2 | exact Views.oneCell (Views.own 1 rfl) h.2 | exact Views.oneCell (Views.own 2 rfl) h.2 | exact Views.oneCell (Views.own 3 rfl) h.2 | exact Views.oneCell (Views.own 4 rfl) h.2 | exact Views.oneCell (Views.own 5 rfl) h.2 | exact Views.oneCell (by assumption) h.2) 0 rfl rfl ?_))
                | (refine wl rfl (op_storeN h rfl rfl K.sz_int (by first | rfl | assumption | exact Views.oneCell (Views.own 0 rfl) h.2 | exact Views.oneCell (Views.own 1 rfl) h.2 | exact Views.oneCell (Views.own 2 rfl) h.2 | exact Views.oneCell (Views.own 3 rfl) h.2 | exact Views.oneCell (Views.own 4 rfl) h.2 | exact Views.oneCell (Views.own 5 rfl) h.2 | exact Views.oneCell (by assumption) h.2) 1 rfl rfl ?_))
                | (refine wl rfl (op_storeN h rfl rfl K.sz_int (by first | rfl | assumption | exact Views.oneCell (Views.own 0 rfl) h.2 | exact Views.oneCell (Views.own 1 rfl) h.2 | exact Views.oneCell (Views.own 2 rfl) h.2 | exact Views.oneCell (Views.own 3 rfl) h.2 | exact Views.oneCell (Views.own 4 rfl) h.2 | exact Views.oneCell (Views.own 5 rfl) h.2 | exact Views.oneCell (by assumption) h.2) 2 rfl rfl ?_))
                | (refine wl rfl (op_storeN h rfl rfl K.sz_int (by first | rfl | assumption | exact Views.oneCell (Views.own 0 rfl) h.2 | exact Views.oneCell (Views.own 1 rfl) h.2 | exact Views.oneCell (Views.own 2 rfl) h.2 | exact Views.oneCell (Views.own 3 rfl) h.2 | exact Views.oneCell (Views.own 4 rfl) h.2 | exact Views.oneCell (Views.own 5 rfl) h.2 | exact Views.oneCell (by assumption) h.2) 3 rfl rfl ?_))
                | (refine wl rfl (op_storeN h rfl rfl K.sz_int (by first | rfl | assumption | exact Views.oneCell (Views.own 0 rfl) h.2 | exact Views.oneCell (Views.own 1 rfl) h.2 | exact Views.oneCell (Views.own 2 rfl) h.2 | exact Views.oneCell (Views.own 3 rfl) h.2 | exact Views.oneCell (Views.own 4 rfl) h.2 | exact Views.oneCell (Views.own 5 rfl) h.2 | exact Views.oneCell (by assumption) h.2) 4 rfl rfl ?_))
                | (refine wl rfl (op_storeN h rfl rfl K.sz_int (by first | rfl | assumption | exact Views.oneCell (Views.own 0 rfl) h.2 | exact Views.oneCell (Views.own 1 rfl) h.2 | exact Views.oneCell (Views.own 2 rfl) h.2 | exact Views.oneCell (Views.own 3 rfl) h.2 | exact Views.oneCell (Views.own 4 rfl) h.2 | exact Views.oneCell (Views.own 5 rfl) h.2 | exact Views.oneCell (by assumption) h.2) 5 rfl rfl ?_))
                | (refine wl rfl (op_storeN h rfl rfl K.sz_int (by first | rfl | assumption | exact Views.oneCell (Views.own 0 rfl) h.2 | exact Views.oneCell (Views.own 1 rfl) h.2 | exact Views.oneCell (Views.own 2 rfl) h.2 | exact Views.oneCell (Views.own 3 rfl) h.2 | exact Views.oneCell (Views.own 4 rfl) h.2 | exact Views.oneCell (Views.own 5 rfl) h.2 | exact Views.oneCell (by assumption) h.2) 6 rfl rfl ?_))
                | (refine wl rfl (op_storeC (o := 5) h rfl rfl K.sz_int (by first | rfl | assumption | exact Views.oneCell (Views.own 0 rfl) h.2 | exact Views.oneCell (Views.own 1 rfl) h.2 | exact Views.oneCell (Views.own 2 rfl) h.2 | exact Views.oneCell (Views.own 3 rfl) h.2 | exact Views.oneCell (Views.own 4 rfl) h.2 | exact Views.oneCell (Views.own 5 rfl) h.2 | exact Views.oneCell (by assumption) h.2) 0 rfl ?_))
                | (refine wl rfl (op_storeC (o := 5) h rfl rfl K.sz_int (by first | rfl | assumption | exact Views.oneCell (Views.own 0 rfl) h.2 | exact Views.oneCell (Views.own 1 rfl) h.2 | exact Views.oneCell (Views.own 2 rfl) h.2 | exact Views.oneCell (Views.own 3 rfl) h.2 | exact Views.oneCell (Views.own 4 rfl) h.2 | exact Views.oneCell (Views.own 5 rfl) h.2 | exact Views.oneCell (by assumption) h.2) 1 rfl ?_))
                | (refine wl rfl (op_storeC (o := 5) h rfl rfl K.sz_int (by first | rfl | assumption | exact Views.oneCell (Views.own 0 rfl) h.2 | exact Views.oneCell (Views.own 1 rfl) h.2 | exact Views.oneCell (Views.own 2 rfl) h.2 | exact Views.oneCell (Views.own 3 rfl) h.2 | exact Views.oneCell (Views.own 4 rfl) h.2 | exact Views.oneCell (Views.own 5 rfl) h.2 | exact Views.oneCell (by assumption) h.2) 2 rfl ?_))
                | (refine wl rfl (op_storeC (o := 5) h rfl rfl K.sz_int (by first | rfl | assumption | exact Views.oneCell (Views.own 0 rfl) h.2 | exact Views.oneCell (Views.own 1 rfl) h.2 | exact Views.oneCell (Views.own 2 rfl) h.2 | exact Views.oneCell (Views.own 3 rfl) h.2 | exact Views.oneCell (Views.own 4 rfl) h.2 | exact Views.oneCell (Views.own 5 rfl) h.2 | exact Views.oneCell (by assumption) h.2) 3 rfl ?_))
                | (refine wl rfl (op_storeC (o := 5) h rfl rfl K.sz_int (by first | rfl | assumption | exact Views.oneCell (Views.own 0 rfl) h.2 | exact Views.oneCell (Views.own 1 rfl) h.2 | exact Views.oneCell (Views.own 2 rfl) h.2 | exact Views.oneCell (Views.own 3 rfl) h.2 | exact Views.oneCell (Views.own 4 rfl) h.2 | exact Views.oneCell (Views.own 5 rfl) h.2 | exact Views.oneCell (by assumption) h.2) 4 rfl ?_))
                | (refine wl rfl (op_storeC (o := 5) h rfl rfl K.sz_int (by first | rfl | assumption | exact Views.oneCell (Views.own 0 rfl) h.2 | exact Views.oneCell (Views.own 1 rfl) h.2 | exact Views.oneCell (Views.own 2 rfl) h.2 | exact Views.oneCell (Views.own 3 rfl) h.2 | exact Views.oneCell (Views.own 4 rfl) h.2 | exact Views.oneCell (Views.own 5 rfl) h.2 | exact Views.oneCell (by assumption) h.2) 5 rfl ?_))
                | (refine wl rfl (op_storeC (o := 5) h rfl rfl K.sz_int (by first | rfl | assumption | exact Views.oneCell (Views.own 0 rfl) h.2 | exact Views.oneCell (Views.own 1 rfl) h.2 | exact Views.oneCell (Views.own 2 rfl) h.2 | exact Views.oneCell (Views.own 3 rfl) h.2 | exact Views.oneCell (Views.own 4 rfl) h.2 | exact Views.oneCell (Views.own 5 rfl) h.2 | exact Views.oneCell (by assumption) h.2) 6 rfl ?_))
        clear h a w; intro a w h
        (try simp only [List.set_cons_zero, List.set_cons_succ] at h)
        refine wnil (c_then ?_)
        refine c_seq (c_region ?_)
        refine wv h (r_fieldAddr h 3 rfl K.u_interleafref09_Act rfl K.sz_uint8 rfl rfl) rfl ?_
        clear h a w; intro a w h
        first
                | (refine wv h (r_ldN h rfl K.u_uint8 rfl 0 rfl rfl) rfl ?_)
                | (refine wv h (r_ldN h rfl K.u_uint8 rfl 1 rfl rfl) rfl ?_)
                | (refine wv h (r_ldN h rfl K.u_uint8 rfl 2 rfl rfl) rfl ?_)
                | (refine wv h (r_ldN h rfl K.u_uint8 rfl 3 rfl rfl) rfl ?_)
                | (refine wv h (r_ldN h rfl K.u_uint8 rfl 4 rfl rfl) rfl ?_)
                | (refine wv h (r_ldN h rfl K.u_uint8 rfl 5 rfl rfl) rfl ?_)
                | (refine wv h (r_ldN h rfl K.u_uint8 rfl 6 rfl rfl) rfl ?_)
                | (refine wv h (r_ldC (o := 3) h rfl K.u_uint8 rfl 0 rfl) rfl ?_)
                | (refine wv h (r_ldC (o := 3) h rfl K.u_uint8 rfl 1 rfl) rfl ?_)
                | (refine wv h (r_ldC (o := 3) h rfl K.u_uint8 rfl 2 rfl) rfl ?_)
                | (refine wv h (r_ldC (o := 3) h rfl K.u_uint8 rfl 3 rfl) rfl ?_)
                | (refine wv h (r_ldC (o := 3) h rfl K.u_uint8 rfl 4 rfl) rfl ?_)
                | (refine wv h (r_ldC (o := 3) h rfl K.u_uint8 rfl 5 rfl) rfl ?_)
                | (refine wv h (r_ldC (o := 3) h rfl K.u_uint8 rfl 6 rfl) rfl ?_)
                | (refine wv h (r_load h rfl K.u_uint8 rfl 0 rfl rfl) rfl ?_)
                | (refine wv h (r_load h rfl K.u_uint8 rfl 1 rfl rfl) rfl ?_)
                | (refine wv h (r_load h rfl K.u_uint8 rfl 2 rfl rfl) rfl ?_)
                | (refine wv h (r_load h rfl K.u_uint8 rfl 3 rfl rfl) rfl ?_)
                | (refine wv h (r_load h rfl K.u_uint8 rfl 4 rfl rfl) rfl ?_)
                | (refine wv h (r_load h rfl K.u_uint8 rfl 5 rfl rfl) rfl ?_)
                | (refine wv h (r_load1 h rfl K.u_uint8 rfl (by assumption)) rfl ?_)
        clear h a w; intro a w h
        refine wv h (r_bin h rfl rfl (B.rem_u8 (y := 30) (by decide))) rfl ?_
        clear h a w; intro a w h
        refine wv h (r_conv h rfl K.u_uint8 K.u_int (C.i64_u8) ) rfl ?_
        clear h a w; intro a w h
        refine wv h (r_bin h rfl rfl (B.add_i64 (by omega) (by omega))) rfl ?_
        clear h a w; intro a w h
        refine wv h (r_fieldAddr h 6 rfl K.u_api_Elem rfl K.sz_int rfl rfl) rfl ?_
        clear h a w; intro a w h
        first
                | (refine wl rfl (op_storeN h rfl rfl K.sz_int (by first | rfl | assumption | exact Views.oneCell (Views.own 0 rfl) h.2 | exact Views.oneCell (Views.own 1 rfl) h.2 | exact Views.oneCell (Views.own 2 rfl) h.2 | exact Views.oneCell (Views.own 3 rfl) h.2 | exact Views.oneCell (Views.own 4 rfl) h.2 | exact Views.oneCell (Views.own 5 rfl) h.2 | exact Views.oneCell (by assumption) h.2) 0 rfl rfl ?_))
                | (refine wl rfl (op_storeN h rfl rfl K.sz_int (by first | rfl | assumption | exact Views.oneCell (Views.own 0 rfl) h.2 | exact Views.oneCell (Views.own 1 rfl) h.2 | exact Views.oneCell (Views.own 2 rfl) h.2 | exact Views.oneCell (Views.own 3 rfl) h.2 | exact Views.oneCell (Views.own 4 rfl) h.2 | exact Views.oneCell (Views.own 5 rfl) h.2 | exact Views.oneCell (by assumption) h.2) 1 rfl rfl ?_))
                | (refine wl rfl (op_storeN h rfl rfl K.sz_int (by first | rfl | assumption | exact Views.oneCell (Views.own 0 rfl) h.2 | exact Views.oneCell (Views.own 1 rfl) h.2 | exact Views.oneCell (Views.own 2 rfl) h.2 | exact Views.oneCell (Views.own 3 rfl) h.2 | exact Views.oneCell (Views.own 4 rfl) h.2 | exact Views.oneCell (Views.own 5 rfl) h.2 | exact Views.oneCell (by assumption) h.2) 2 rfl rfl ?_))
                | (refine wl rfl (op_storeN h rfl rfl K.sz_int (by first | rfl | assumption | exact Views.oneCell (Views.own 0 rfl) h.2 | exact Views.oneCell (Views.own 1 rfl) h.2 | exact Views.oneCell (Views.own 2 rfl) h.2 | exact Views.oneCell (Views.own 3 rfl) h.2 | exact Views.oneCell (Views.own 4 rfl) h.2 | exact Views.oneCell (Views.own 5 rfl) h.2 | exact Views.oneCell (by assumption) h.2) 3 rfl rfl ?_))
                | (refine wl rfl (op_storeN h rfl rfl K.sz_int (by first | rfl | assumption | exact Views.oneCell (Views.own 0 rfl) h.2 | exact Views.oneCell (Views.own 1 rfl) h.2 | exact Views.oneCell (Views.own 2 rfl) h.2 | exact Views.oneCell (Views.own 3 rfl) h.2 | exact Views.oneCell (Views.own 4 rfl) h.2 | exact Views.oneCell (Views.own 5 rfl) h.2 | exact Views.oneCell (by assumption) h.2) 4 rfl rfl ?_))
                | (refine wl rfl (op_storeN h rfl rfl K.sz_int (by first | rfl | assumption | exact Views.oneCell (Views.own 0 rfl) h.2 | exact Views.oneCell (Views.own 1 rfl) h.2 | exact Views.oneCell (Views.own 2 rfl) h.2 | exact Views.oneCell (Views.own 3 rfl) h.2 | exact Views.oneCell (Views.own 4 rfl) h.2 | exact Views.oneCell (Views.own 5 rfl) h.2 | exact Views.oneCell (by assumption) h.2) 5 rfl rfl ?_))
                | (refine wl rfl (op_storeN h rfl rfl K.sz_int (by first | rfl | assumption | exact Views.oneCell (Views.own 0 rfl) h.2 | exact Views.oneCell (Views.own 1 rfl) h.2 | exact Views.oneCell (Views.own 2 rfl) h.2 | exact Views.oneCell (Views.own 3 rfl) h.2 | exact Views.oneCell (Views.own 4 rfl) h.2 | exact Views.oneCell (Views.own 5 rfl) h.2 | exact Views.oneCell (by assumption) h.2) 6 rfl rfl ?_))
                | (refine wl rfl (op_storeC (o := 6) h rfl rfl K.sz_int (by first | rfl | assumption | exact Views.oneCell (Views.own 0 rfl) h.2 | exact Views.oneCell (Views.own 1 rfl) h.2 | exact Views.oneCell (Views.own 2 rfl) h.2 | exact Views.oneCell (Views.own 3 rfl) h.2 | exact Views.oneCell (Views.own 4 rfl) h.2 | exact Views.oneCell (Views.own 5 rfl) h.2 | exact Views.oneCell (by assumption) h.2) 0 rfl ?_))
                | (refine wl rfl (op_storeC (o := 6) h rfl rfl K.sz_int (by first | rfl | assumption | exact Views.oneCell (Views.own 0 rfl) h.2 | exact Views.oneCell (Views.own 1 rfl) h.2 | exact Views.oneCell (Views.own 2 rfl) h.2 | exact Views.oneCell (Views.own 3 rfl) h.2 | exact Views.oneCell (Views.own 4 rfl) h.2 | exact Views.oneCell (Views.own 5 rfl) h.2 | exact Views.oneCell (by assumption) h.2) 1 rfl ?_))
                | (refine wl rfl (op_storeC (o := 6) h rfl rfl K.sz_int (by first | rfl | assumption | exact Views.oneCell (Views.own 0 rfl) h.2 | exact Views.oneCell (Views.own 1 rfl) h.2 | exact Views.oneCell (Views.own 2 rfl) h.2 | exact Views.oneCell (Views.own 3 rfl) h.2 | exact Views.oneCell (Views.own 4 rfl) h.2 | exact Views.oneCell (Views.own 5 rfl) h.2 | exact Views.oneCell (by assumption) h.2) 2 rfl ?_))
                | (refine wl rfl (op_storeC (o := 6) h rfl rfl K.sz_int (by first | rfl | assumption | exact Views.oneCell (Views.own 0 rfl) h.2 | exact Views.oneCell (Views.own 1 rfl) h.2 | exact Views.oneCell (Views.own 2 rfl) h.2 | exact Views.oneCell (Views.own 3 rfl) h.2 | exact Views.oneCell (Views.own 4 rfl) h.2 | exact Views.oneCell (Views.own 5 rfl) h.2 | exact Views.oneCell (by assumption) h.2) 3 rfl ?_))
                | (refine wl rfl (op_storeC (o := 6) h rfl rfl K.sz_int (by first | rfl | assumption | exact Views.oneCell (Views.own 0 rfl) h.2 | exact Views.oneCell (Views.own 1 rfl) h.2 | exact Views.oneCell (Views.own 2 rfl) h.2 | exact Views.oneCell (Views.own 3 rfl) h.2 | exact Views.oneCell (Views.own 4 rfl) h.2 | exact Views.oneCell (Views.own 5 rfl) h.2 | exact Views.oneCell (by assumption) h.2) 4 rfl ?_))
                | (refine wl rfl (op_storeC (o := 6) h rfl rfl K.sz_int (by first | rfl | assumption | exact Views.oneCell (Views.own 0 rfl) h.2 | exact Views.oneCell (Views.own 1 rfl) h.2 | exact Views.oneCell (Views.own 2 rfl) h.2 | exact Views.oneCell (Views.own 3 rfl) h.2 | exact Views.oneCell (Views.own 4 rfl) h.2 | exact Views.oneCell (Views.own 5 rfl) h.2 | exact Views.oneCell (by assumption) h.2) 5 rfl ?_))
                | (refine wl rfl (op_storeC (o := 6) h rfl rfl K.sz_int (by first | rfl | assumption | exact Views.oneCell (Views.own 0 rfl) h.2 | exact Views.oneCell (Views.own 1 rfl) h.2 | exact Views.oneCell (Views.own 2 rfl) h.2 | exact Views.oneCell (Views.own 3 rfl) h.2 | exact Views.oneCell (Views.own 4 rfl) h.2 | exact Views.oneCell (Views.own 5 rfl) h.2 | exact Views.oneCell (by assumption) h.2) 6 rfl ?_))
        clear h a w; intro a w h
        (try simp only [List.set_cons_zero, List.set_cons_succ] at h)
        refine wnil (c_then ?_)
        refine c_seq (c_region ?_)
        refine wv h (r_fieldAddr h 2 rfl K.u_interleafref09_Act rfl K.sz_uint8 rfl rfl) rfl ?_
        clear h a w; intro a w h
        first
                | (refine wv h (r_ldN h rfl K.u_uint8 rfl 0 rfl rfl) rfl ?_)
                | (refine wv h (r_ldN h rfl K.u_uint8 rfl 1 rfl rfl) rfl ?_)
                | (refine wv h (r_ldN h rfl K.u_uint8 rfl 2 rfl rfl) rfl ?_)
                | (refine wv h (r_ldN h rfl K.u_uint8 rfl 3 rfl rfl) rfl ?_)
                | (refine wv h (r_ldN h rfl K.u_uint8 rfl 4 rfl rfl) rfl ?_)
                | (refine wv h (r_ldN h rfl K.u_uint8 rfl 5 rfl rfl) rfl ?_)
                | (refine wv h (r_ldN h rfl K.u_uint8 rfl 6 rfl rfl) rfl ?_)
                | (refine wv h (r_ldC (o := 2) h rfl K.u_uint8 rfl 0 rfl) rfl ?_)
                | (refine wv h (r_ldC (o := 2) h rfl K.u_uint8 rfl 1 rfl) rfl ?_)
                | (refine wv h (r_ldC (o := 2) h rfl K.u_uint8 rfl 2 rfl) rfl ?_)
                | (refine wv h (r_ldC (o := 2) h rfl K.u_uint8 rfl 3 rfl) rfl ?_)
                | (refine wv h (r_ldC (o := 2) h rfl K.u_uint8 rfl 4 rfl) rfl ?_)
                | (refine wv h (r_ldC (o := 2) h rfl K.u_uint8 rfl 5 rfl) rfl ?_)
                | (refine wv h (r_ldC (o := 2) h rfl K.u_uint8 rfl 6 rfl) rfl ?_)
                | (refine wv h (r_load h rfl K.u_uint8 rfl 0 rfl rfl) rfl ?_)
                | (refine wv h (r_load h rfl K.u_uint8 rfl 1 rfl rfl) rfl ?_)
                | (refine wv h (r_load h rfl K.u_uint8 rfl 2 rfl rfl) rfl ?_)
                | (refine wv h (r_load h rfl K.u_uint8 rfl 3 rfl rfl) rfl ?_)
                | (refine wv h (r_load h rfl K.u_uint8 rfl 4 rfl rfl) rfl ?_)
                | (refine wv h (r_load h rfl K.u_uint8 rfl 5 rfl rfl) rfl ?_)
                | (refine wv h (r_load1 h rfl K.u_uint8 rfl (by assumption)) rfl ?_)
        clear h a w; intro a w h
        refine wv h (r_conv h rfl K.u_uint8 K.u_int (C.i64_u8) ) rfl ?_
        clear h a w; intro a w h
        refine wl rfl (op_call h rfl K.go_ref09_text (ref09_text s _ ac.b.toNat _ (by have := ac.b.toNat_lt; omega) h.2) rfl ?_)
        clear h a w; intro tx1 a w hx3 h
        (try simp only [List.set_cons_zero, List.set_cons_succ] at h)
        refine wv h (r_fieldAddr h 7 rfl K.u_api_Elem rfl K.sz_string rfl rfl) rfl ?_
        clear h a w; intro a w h
        first
                | (refine wl rfl (op_storeN h rfl rfl K.sz_string (by first | rfl | assumption | exact Views.oneCell (Views.own 0 rfl) h.2 | exact Views.oneCell (Views.own 1 rfl) h.2 | exact Views.oneCell (Views.own 2 rfl) h.2 | exact Views.oneCell (Views.own 3 rfl) h.2 | exact Views.oneCell (Views.own 4 rfl) h.2 | exact Views.oneCell (Views.own 5 rfl) h.2 | exact Views.oneCell (by assumption) h.2) 0 rfl rfl ?_))
                | (refine wl rfl (op_storeN h rfl rfl K.sz_string (by first | rfl | assumption | exact Views.oneCell (Views.own 0 rfl) h.2 | exact Views.oneCell (Views.own 1 rfl) h.2 | exact Views.oneCell (Views.own 2 rfl) h.2 | exact Views.oneCell (Views.own 3 rfl) h.2 | exact Views.oneCell (Views.own 4 rfl) h.2 | exact Views.oneCell (Views.own 5 rfl) h.2 | exact Views.oneCell (by assumption) h.2) 1 rfl rfl ?_))
                | (refine wl rfl (op_storeN h rfl rfl K.sz_string (by first | rfl | assumption | exact Views.oneCell (Views.own 0 rfl) h.2 | exact Views.oneCell (Views.own 1 rfl) h.2 | exact Views.oneCell (Views.own 2 rfl) h.2 | exact Views.oneCell (Views.own 3 rfl) h.2 | exact Views.oneCell (Views.own 4 rfl) h.2 | exact Views.oneCell (Views.own 5 rfl) h.2 | exact Views.oneCell (by assumption) h.2) 2 rfl rfl ?_))
                | (refine wl rfl (op_storeN h rfl rfl K.sz_string (by first | rfl | assumption | exact Views.oneCell (Views.own 0 rfl) h.2 | exact Views.oneCell (Views.own 1 rfl) h.2 | exact Views.oneCell (Views.own 2 rfl) h.2 | exact Views.oneCell (Views.own 3 rfl) h.2 | exact Views.oneCell (Views.own 4 rfl) h.2 | exact Views.oneCell (Views.own 5 rfl) h.2 | exact Views.oneCell (by assumption) h.2) 3 rfl rfl ?_))
                | (refine wl rfl (op_storeN h rfl rfl K.sz_string (by first | rfl | assumption | exact Views.oneCell (Views.own 0 rfl) h.2 | exact Views.oneCell (Views.own 1 rfl) h.2 | exact Views.oneCell (Views.own 2 rfl) h.2 | exact Views.oneCell (Views.own 3 rfl) h.2 | exact Views.oneCell (Views.own 4 rfl) h.2 | exact Views.oneCell (Views.own 5 rfl) h.2 | exact Views.oneCell (by assumption) h.2) 4 rfl rfl ?_))
                | (refine wl rfl (op_storeN h rfl rfl K.sz_string (by first | rfl | assumption | exact Views.oneCell (Views.own 0 rfl) h.2 | exact Views.oneCell (Views.own 1 rfl) h.2 | exact Views.oneCell (Views.own 2 rfl) h.2 | exact Views.oneCell (Views.own 3 rfl) h.2 | exact Views.oneCell (Views.own 4 rfl) h.2 | exact Views.oneCell (Views.own 5 rfl) h.2 | exact Views.oneCell (by assumption) h.2) 5 rfl rfl ?_))
                | (refine wl rfl (op_storeN h rfl rfl K.sz_string (by first | rfl | assumption | exact Views.oneCell (Views.own 0 rfl) h.2 | exact Views.oneCell (Views.own 1 rfl) h.2 | exact Views.oneCell (Views.own 2 rfl) h.2 | exact Views.oneCell (Views.own 3 rfl) h.2 | exact Views.oneCell (Views.own 4 rfl) h.2 | exact Views.oneCell (Views.own 5 rfl) h.2 | exact Views.oneCell (by assumption) h.2) 6 rfl rfl ?_))
                | (refine wl rfl (op_storeC (o := 7) h rfl rfl K.sz_string (by first | rfl | assumption | exact Views.oneCell (Views.own 0 rfl) h.2 | exact Views.oneCell (Views.own 1 rfl) h.2 | exact Views.oneCell (Views.own 2 rfl) h.2 | exact Views.oneCell (Views.own 3 rfl) h.2 | exact Views.oneCell (Views.own 4 rfl) h.2 | exact Views.oneCell (Views.own 5 rfl) h.2 | exact Views.oneCell (by assumption) h.2) 0 rfl ?_))
                | (refine wl rfl (op_storeC (o := 7) h rfl rfl K.sz_string (by first | rfl | assumption | exact Views.oneCell (Views.own 0 rfl) h.2 | exact Views.oneCell (Views.own 1 rfl) h.2 | exact Views.oneCell (Views.own 2 rfl) h.2 | exact Views.oneCell (Views.own 3 rfl) h.2 | exact Views.oneCell (Views.own 4 rfl) h.2 | exact Views.oneCell (Views.own 5 rfl) h.2 | exact Views.oneCell (by assumption) h.2) 1 rfl ?_))
                | (refine wl rfl (op_storeC (o := 7) h rfl rfl K.sz_string (by first | rfl | assumption | exact Views.oneCell (Views.own 0 rfl) h.2 | exact Views.oneCell (Views.own 1 rfl) h.2 | exact Views.oneCell (Views.own 2 rfl) h.2 | exact Views.oneCell (Views.own 3 rfl) h.2 | exact Views.oneCell (Views.own 4 rfl) h.2 | exact Views.oneCell (Views.own 5 rfl) h.2 | exact Views.oneCell (by assumption) h.2) 2 rfl ?_))
                | (refine wl rfl (op_storeC (o := 7) h rfl rfl K.sz_string (by first | rfl | assumption | exact Views.oneCell (Views.own 0 rfl) h.2 | exact Views.oneCell (Views.own 1 rfl) h.2 | exact Views.oneCell (Views.own 2 rfl) h.2 | exact Views.oneCell (Views.own 3 rfl) h.2 | exact Views.oneCell (Views.own 4 rfl) h.2 | exact Views.oneCell (Views.own 5 rfl) h.2 | exact Views.oneCell (by assumption) h.2) 3 rfl ?_))
                | (refine wl rfl (op_storeC (o := 7) h rfl rfl K.sz_string (by first | rfl | assumption | exact Views.oneCell (Views.own 0 rfl) h.2 | exact Views.oneCell (Views.own 1 rfl) h.2 | exact Views.oneCell (Views.own 2 rfl) h.2 | exact Views.oneCell (Views.own 3 rfl) h.2 | exact Views.oneCell (Views.own 4 rfl) h.2 | exact Views.oneCell (Views.own 5 rfl) h.2 | exact Views.oneCell (by assumption) h.2) 4 rfl ?_))
                | (refine wl rfl (op_storeC (o := 7) h rfl rfl K.sz_string (by first | rfl | assumption | exact Views.oneCell (Views.own 0 rfl) h.2 | exact Views.oneCell (Views.own 1 rfl) h.2 | exact Views.oneCell (Views.own 2 rfl) h.2 | exact Views.oneCell (Views.own 3 rfl) h.2 | exact Views.oneCell (Views.own 4 rfl) h.2 | exact Views.oneCell (Views.own 5 rfl) h.2 | exact Views.oneCell (by assumption) h.2) 5 rfl ?_))
                | (refine wl rfl (op_storeC (o := 7) h rfl rfl K.sz_string (by first | rfl | assumption | exact Views.oneCell (Views.own 0 rfl) h.2 | exact Views.oneCell (Views.own 1 rfl) h.2 | exact Views.oneCell (Views.own 2 rfl) h.2 | exact Views.oneCell (Views.own 3 rfl) h.2 | exact Views.oneCell (Views.own 4 rfl) h.2 | exact Views.oneCell (Views.own 5 rfl) h.2 | exact Views.oneCell (by assumption) h.2) 6 rfl ?_))
        clear h a w; intro a w h
        (try simp only [List.set_cons_zero, List.set_cons_succ] at h)
        refine wnil (c_then ?_)
        refine c_seq (c_region ?_)
        refine wv h (r_fieldAddr h 3 rfl K.u_interleafref09_Act rfl K.sz_uint8 rfl rfl) rfl ?_
        clear h a w; intro a w h
        first
                | (refine wv h (r_ldN h rfl K.u_uint8 rfl 0 rfl rfl) rfl ?_)
                | (refine wv h (r_ldN h rfl K.u_uint8 rfl 1 rfl rfl) rfl ?_)
                | (refine wv h (r_ldN h rfl K.u_uint8 rfl 2 rfl rfl) rfl ?_)
                | (refine wv h (r_ldN h rfl K.u_uint8 rfl 3 rfl rfl) rfl ?_)
                | (refine wv h (r_ldN h rfl K.u_uint8 rfl 4 rfl rfl) rfl ?_)
                | (refine wv h (r_ldN h rfl K.u_uint8 rfl 5 rfl rfl) rfl ?_)
                | (refine wv h (r_ldN h rfl K.u_uint8 rfl 6 rfl rfl) rfl ?_)
                | (refine wv h (r_ldC (o := 3) h rfl K.u_uint8 rfl 0 rfl) rfl ?_)
                | (refine wv h (r_ldC (o := 3) h rfl K.u_uint8 rfl 1 rfl) rfl ?_)
                | (refine wv h (r_ldC (o := 3) h rfl K.u_uint8 rfl 2 rfl) rfl ?_)
                | (refine wv h (r_ldC (o := 3) h rfl K.u_uint8 rfl 3 rfl) rfl ?_)
                | (refine wv h (r_ldC (o := 3) h rfl K.u_uint8 rfl 4 rfl) rfl ?_)
                | (refine wv h (r_ldC (o := 3) h rfl K.u_uint8 rfl 5 rfl) rfl ?_)
                | (refine wv h (r_ldC (o := 3) h rfl K.u_uint8 rfl 6 rfl) rfl ?_)
                | (refine wv h (r_load h rfl K.u_uint8 rfl 0 rfl rfl) rfl ?_)
                | (refine wv h (r_load h rfl K.u_uint8 rfl 1 rfl rfl) rfl ?_)
                | (refine wv h (r_load h rfl K.u_uint8 rfl 2 rfl rfl) rfl ?_)
                | (refine wv h (r_load h rfl K.u_uint8 rfl 3 rfl rfl) rfl ?_)
                | (refine wv h (r_load h rfl K.u_uint8 rfl 4 rfl rfl) rfl ?_)
                | (refine wv h (r_load h rfl K.u_uint8 rfl 5 rfl rfl) rfl ?_)
                | (refine wv h (r_load1 h rfl K.u_uint8 rfl (by assumption)) rfl ?_)
        clear h a w; intro a w h
        refine wv h (r_conv h rfl K.u_uint8 K.u_int (C.i64_u8) ) rfl ?_
        clear h a w; intro a w h
        refine wl rfl (op_call h rfl K.go_ref09_text (ref09_text s _ ac.c.toNat _ (by have := ac.c.toNat_lt; omega) h.2) rfl ?_)
        clear h a w; intro tx2 a w hx4 h
        (try simp only [List.set_cons_zero, List.set_cons_succ] at h)
        refine wv h (r_fieldAddr h 8 rfl K.u_api_Elem rfl K.sz_string rfl rfl) rfl ?_
        clear h a w; intro a w h
        first
                | (refine wl rfl (op_storeN h rfl rfl K.sz_string (by first | rfl | assumption | exact Views.oneCell (Views.own 0 rfl) h.2 | exact Views.oneCell (Views.own 1 rfl) h.2 | exact Views.oneCell (Views.own 2 rfl) h.2 | exact Views.oneCell (Views.own 3 rfl) h.2 | exact Views.oneCell (Views.own 4 rfl) h.2 | exact Views.oneCell (Views.own 5 rfl) h.2 | exact Views.oneCell (by assumption) h.2) 0 rfl rfl ?_))
                | (refine wl rfl (op_storeN h rfl rfl K.sz_string (by first | rfl | assumption | exact Views.oneCell (Views.own 0 rfl) h.2 | exact Views.oneCell (Views.own 1 rfl) h.2 | exact Views.oneCell (Views.own 2 rfl) h.2 | exact Views.oneCell (Views.own 3 rfl) h.2 | exact Views.oneCell (Views.own 4 rfl) h.2 | exact Views.oneCell (Views.own 5 rfl) h.2 | exact Views.oneCell (by assumption) h.2) 1 rfl rfl ?_))
                | (refine wl rfl (op_storeN h rfl rfl K.sz_string (by first | rfl | assumption | exact Views.oneCell (Views.own 0 rfl) h.2 | exact Views.oneCell (Views.own 1 rfl) h.2 | exact Views.oneCell (Views.own 2 rfl) h.2 | exact Views.oneCell (Views.own 3 rfl) h.2 | exact Views.oneCell (Views.own 4 rfl) h.2 | exact Views.oneCell (Views.own 5 rfl) h.2 | exact Views.oneCell (by assumption) h.2) 2 rfl rfl ?_))
                | (refine wl rfl (op_storeN h rfl rfl K.sz_string (by first | rfl | assumption | exact Views.oneCell (Views.own 0 rfl) h.2 | exact Views.oneCell (Views.own 1 rfl) h.2 | exact Views.oneCell (Views.own 2 rfl) h.2 | exact Views.oneCell (Views.own 3 rfl) h.2 | exact Views.oneCell (Views.own 4 rfl) h.2 | exact Views.oneCell (Views.own 5 rfl) h.2 | exact Views.oneCell (by assumption) h.2) 3 rfl rfl ?_))
                | (refine wl rfl (op_storeN h rfl rfl K.sz_string (by first | rfl | assumption | exact Views.oneCell (Views.own 0 rfl) h.2 | exact Views.oneCell (Views.own 1 rfl) h.2 | exact Views.oneCell (Views.own 2 rfl) h.2 | exact Views.oneCell (Views.own 3 rfl) h.2 | exact Views.oneCell (Views.own 4 rfl) h.2 | exact Views.oneCell (Views.own 5 rfl) h.2 | exact Views.oneCell (by assumption) h.2) 4 rfl rfl ?_))
                | (refine wl rfl (op_storeN h rfl rfl K.sz_string (by first | rfl | assumption | exact Views.oneCell (Views.own 0 rfl) h.2 | exact Views.oneCell (Views.own 1 rfl) h.2 | exact Views.oneCell (Views.own 2 rfl) h.2 | exact Views.oneCell (Views.own 3 rfl) h.2 | exact Views.oneCell (Views.own 4 rfl) h.2 | exact Views.oneCell (Views.own 5 rfl) h.2 | exact Views.oneCell (by assumption) h.2) 5 rfl rfl ?_))
                | (refine wl rfl (op_storeN h rfl rfl K.sz_string (by first | rfl | assumption | exact Views.oneCell (Views.own 0 rfl) h.2 | exact Views.oneCell (Views.own 1 rfl) h.2 | exact Views.oneCell (Views.own 2 rfl) h.2 | exact Views.oneCell (Views.own 3 rfl) h.2 | exact Views.oneCell (Views.own 4 rfl) h.2 | exact Views.oneCell (Views.own 5 rfl) h.2 | exact Views.oneCell (by assumption) h.2) 6 rfl rfl ?_))
                | (refine wl rfl (op_storeC (o := 8) h rfl rfl K.sz_string (by first | rfl | assumption | exact Views.oneCell (Views.own 0 rfl) h.2 | exact Views.oneCell (Views.own 1 rfl) h.2 | exact Views.oneCell (Views.own 2 rfl) h.2 | exact Views.oneCell (Views.own 3 rfl) h.2 | exact Views.oneCell (Views.own 4 rfl) h.2 | exact Views.oneCell (Views.own 5 rfl) h.2 | exact Views.oneCell (by assumption) h.2) 0 rfl ?_))
                | (refine wl rfl (op_storeC (o := 8) h rfl rfl K.sz_string (by first | rfl | assumption | exact Views.oneCell (Views.own 0 rfl) h.2 | exact Views.oneCell (Views.own 1 rfl) h.2 | exact Views.oneCell (Views.own 2 rfl) h.2 | exact Views.oneCell (Views.own 3 rfl) h.2 | exact Views.oneCell (Views.own 4 rfl) h.2 | exact Views.oneCell (Views.own 5 rfl) h.2 | exact Views.oneCell (by assumption) h.2) 1 rfl ?_))
                | (refine wl rfl (op_storeC (o := 8) h rfl rfl K.sz_string (by first | rfl | assumption | exact Views.oneCell (Views.own 0 rfl) h.2 | exact Views.oneCell (Views.own 1 rfl) h.2 | exact Views.oneCell (Views.own 2 rfl) h.2 | exact Views.oneCell (Views.own 3 rfl) h.2 | exact Views.oneCell (Views.own 4 rfl) h.2 | exact Views.oneCell (Views.own 5 rfl) h.2 | exact Views.oneCell (by assumption) h.2) 2 rfl ?_))
                | (refine wl rfl (op_storeC (o := 8) h rfl rfl K.sz_string (by first | rfl | assumption | exact Views.oneCell (Views.own 0 rfl) h.2 | exact Views.oneCell (Views.own 1 rfl) h.2 | exact Views.oneCell (Views.own 2 rfl) h.2 | exact Views.oneCell (Views.own 3 rfl) h.2 | exact Views.oneCell (Views.own 4 rfl) h.2 | exact Views.oneCell (Views.own 5 rfl) h.2 | exact Views.oneCell (by assumption) h.2) 3 rfl ?_))
                | (refine wl rfl (op_storeC (o := 8) h rfl rfl K.sz_string (by first | rfl | assumption | exact Views.oneCell (Views.own 0 rfl) h.2 | exact Views.oneCell (Views.own 1 rfl) h.2 | exact Views.oneCell (Views.own 2 rfl) h.2 | exact Views.oneCell (Views.own 3 rfl) h.2 | exact Views.oneCell (Views.own 4 rfl) h.2 | exact Views.oneCell (Views.own 5 rfl) h.2 | exact Views.oneCell (by assumption) h.2) 4 rfl ?_))
                | (refine wl rfl (op_storeC (o := 8) h rfl rfl K.sz_string (by first | rfl | assumption | exact Views.oneCell (Views.own 0 rfl) h.2 | exact Views.oneCell (Views.own 1 rfl) h.2 | exact Views.oneCell (Views.own 2 rfl) h.2 | exact Views.oneCell (Views.own 3 rfl) h.2 | exact Views.oneCell (Views.own 4 rfl) h.2 | exact Views.oneCell (Views.own 5 rfl) h.2 | exact Views.oneCell (by assumption) h.2) 5 rfl ?_))
                | (refine wl rfl (op_storeC (o := 8) h rfl rfl K.sz_string (by first | rfl | assumption | exact Views.oneCell (Views.own 0 rfl) h.2 | exact Views.oneCell (Views.own 1 rfl) h.2 | exact Views.oneCell (Views.own 2 rfl) h.2 | exact Views.oneCell (Views.own 3 rfl) h.2 | exact Views.oneCell (Views.own 4 rfl) h.2 | exact Views.oneCell (Views.own 5 rfl) h.2 | exact Views.oneCell (by assumption) h.2) 6 rfl ?_))
        clear h a w; intro a w h
        (try simp only [List.set_cons_zero, List.set_cons_succ] at h)
        refine wnil (c_then ?_)
        refine c_region ?_
        refine wv h (r_fieldAddr0 h rfl K.u_interleafref09_Act rfl K.sz_uint8 rfl rfl) rfl ?_
        clear h a w; intro a w h
        first
                | (refine wv h (r_ldN h rfl K.u_uint8 rfl 0 rfl rfl) rfl ?_)
                | (refine wv h (r_ldN h rfl K.u_uint8 rfl 1 rfl rfl) rfl ?_)
                | (refine wv h (r_ldN h rfl K.u_uint8 rfl 2 rfl rfl) rfl ?_)
                | (refine wv h (r_ldN h rfl K.u_uint8 rfl 3 rfl rfl) rfl ?_)
                | (refine wv h (r_ldN h rfl K.u_uint8 rfl 4 rfl rfl) rfl ?_)
                | (refine wv h (r_ldN h rfl K.u_uint8 rfl 5 rfl rfl) rfl ?_)
                | (refine wv h (r_ldN h rfl K.u_uint8 rfl 6 rfl rfl) rfl ?_)
                | (refine wv h (r_ldC (o := 0) h rfl K.u_uint8 rfl 0 rfl) rfl ?_)
                | (refine wv h (r_ldC (o := 0) h rfl K.u_uint8 rfl 1 rfl) rfl ?_)
                | (refine wv h (r_ldC (o := 0) h rfl K.u_uint8 rfl 2 rfl) rfl ?_)
                | (refine wv h (r_ldC (o := 0) h rfl K.u_uint8 rfl 3 rfl) rfl ?_)
                | (refine wv h (r_ldC (o := 0) h rfl K.u_uint8 rfl 4 rfl) rfl ?_)
                | (refine wv h (r_ldC (o := 0) h rfl K.u_uint8 rfl 5 rfl) rfl ?_)
                | (refine wv h (r_ldC (o := 0) h rfl K.u_uint8 rfl 6 rfl) rfl ?_)
                | (refine wv h (r_load h rfl K.u_uint8 rfl 0 rfl rfl) rfl ?_)
                | (refine wv h (r_load h rfl K.u_uint8 rfl 1 rfl rfl) rfl ?_)
                | (refine wv h (r_load h rfl K.u_uint8 rfl 2 rfl rfl) rfl ?_)
                | (refine wv h (r_load h rfl K.u_uint8 rfl 3 rfl rfl) rfl ?_)
                | (refine wv h (r_load h rfl K.u_uint8 rfl 4 rfl rfl) rfl ?_)
                | (refine wv h (r_load h rfl K.u_uint8 rfl 5 rfl rfl) rfl ?_)
                | (refine wv h (r_load1 h rfl K.u_uint8 rfl (by assumption)) rfl ?_)
        clear h a w; intro a w h
        refine wv h (r_conv h rfl K.u_uint8 K.u_int (C.i64_u8) ) rfl ?_
        clear h a w; intro a w h
        refine wl rfl (op_call h rfl K.go_ref09_text (ref09_text s _ ac.k.toNat _ (by have := ac.k.toNat_lt; omega) h.2) rfl ?_)
        clear h a w; intro tx3 a w hx5 h
        (try simp only [List.set_cons_zero, List.set_cons_succ] at h)
        refine wv h (r_fieldAddr h 9 rfl K.u_api_Elem rfl K.sz_string rfl rfl) rfl ?_
        clear h a w; intro a w h
        first
                | (refine wl rfl (op_storeN h rfl rfl K.sz_string (by first | rfl | assumption | exact Views.oneCell (Views.own 0 rfl) h.2 | exact Views.oneCell (Views.own 1 rfl) h.2 | exact Views.oneCell (Views.own 2 rfl) h.2 | exact Views.oneCell (Views.own 3 rfl) h.2 | exact Views.oneCell (Views.own 4 rfl) h.2 | exact Views.oneCell (Views.own 5 rfl) h.2 | exact Views.oneCell (by assumption) h.2) 0 rfl rfl ?_))
                | (refine wl rfl (op_storeN h rfl rfl K.sz_string (by first | rfl | assumption | exact Views.oneCell (Views.own 0 rfl) h.2 | exact Views.oneCell (Views.own 1 rfl) h.2 | exact Views.oneCell (Views.own 2 rfl) h.2 | exact Views.oneCell (Views.own 3 rfl) h.2 | exact Views.oneCell (Views.own 4 rfl) h.2 | exact Views.oneCell (Views.own 5 rfl) h.2 | exact Views.oneCell (by assumption) h.2) 1 rfl rfl ?_))
                | (refine wl rfl (op_storeN h rfl rfl K.sz_string (by first | rfl | assumption | exact Views.oneCell (Views.own 0 rfl) h.2 | exact Views.oneCell (Views.own 1 rfl) h.2 | exact Views.oneCell (Views.own 2 rfl) h.2 | exact Views.oneCell (Views.own 3 rfl) h.2 | exact Views.oneCell (Views.own 4 rfl) h.2 | exact Views.oneCell (Views.own 5 rfl) h.2 | exact Views.oneCell (by assumption) h.2) 2 rfl rfl ?_))
                | (refine wl rfl (op_storeN h rfl rfl K.sz_string (by first | rfl | assumption | exact Views.oneCell (Views.own 0 rfl) h.2 | exact Views.oneCell (Views.own 1 rfl) h.2 | exact Views.oneCell (Views.own 2 rfl) h.2 | exact Views.oneCell (Views.own 3 rfl) h.2 | exact Views.oneCell (Views.own 4 rfl) h.2 | exact Views.oneCell (Views.own 5 rfl) h.2 | exact Views.oneCell (by assumption) h.2) 3 rfl rfl ?_))
                | (refine wl rfl (op_storeN h rfl rfl K.sz_string (by first | rfl | assumption | exact Views.oneCell (Views.own 0 rfl) h.2 | exact Views.oneCell (Views.own 1 rfl) h.2 | exact Views.oneCell (Views.own 2 rfl) h.2 | exact Views.oneCell (Views.own 3 rfl) h.2 | exact Views.oneCell (Views.own 4 rfl) h.2 | exact Views.oneCell (Views.own 5 rfl) h.2 | exact Views.oneCell (by assumption) h.2) 4 rfl rfl ?_))
                | (refine wl rfl (op_storeN h rfl rfl K.sz_string (by first | rfl | assumption | exact Views.oneCell (Views.own 0 rfl) h.2 | exact Views.oneCell (Views.own 1 rfl) h.2 | exact Views.oneCell (Views.own 2 rfl) h.2 | exact Views.oneCell (Views.own 3 rfl) h.2 | exact Views.oneCell (Views.own 4 rfl) h.2 | exact Views.oneCell (Views.own 5 rfl) h.2 | exact Views.oneCell (by assumption) h.2) 5 rfl rfl ?_))
                | (refine wl rfl (op_storeN h rfl rfl K.sz_string (by first | rfl | assumption | exact Views.oneCell (Views.own 0 rfl) h.2 | exact Views.oneCell (Views.own 1 rfl) h.2 | exact Views.oneCell (Views.own 2 rfl) h.2 | exact Views.oneCell (Views.own 3 rfl) h.2 | exact Views.oneCell (Views.own 4 rfl) h.2 | exact Views.oneCell (Views.own 5 rfl) h.2 | exact Views.oneCell (by assumption) h.2) 6 rfl rfl ?_))
                | (refine wl rfl (op_storeC (o := 9) h rfl rfl K.sz_string (by first | rfl | assumption | exact Views.oneCell (Views.own 0 rfl) h.2 | exact Views.oneCell (Views.own 1 rfl) h.2 | exact Views.oneCell (Views.own 2 rfl) h.2 | exact Views.oneCell (Views.own 3 rfl) h.2 | exact Views.oneCell (Views.own 4 rfl) h.2 | exact Views.oneCell (Views.own 5 rfl) h.2 | exact Views.oneCell (by assumption) h.2) 0 rfl ?_))
                | (refine wl rfl (op_storeC (o := 9) h rfl rfl K.sz_string (by first | rfl | assumption | exact Views.oneCell (Views.own 0 rfl) h.2 | exact Views.oneCell (Views.own 1 rfl) h.2 | exact Views.oneCell (Views.own 2 rfl) h.2 | exact Views.oneCell (Views.own 3 rfl) h.2 | exact Views.oneCell (Views.own 4 rfl) h.2 | exact Views.oneCell (Views.own 5 rfl) h.2 | exact Views.oneCell (by assumption) h.2) 1 rfl ?_))
                | (refine wl rfl (op_storeC (o := 9) h rfl rfl K.sz_string (by first | rfl | assumption | exact Views.oneCell (Views.own 0 rfl) h.2 | exact Views.oneCell (Views.own 1 rfl) h.2 | exact Views.oneCell (Views.own 2 rfl) h.2 | exact Views.oneCell (Views.own 3 rfl) h.2 | exact Views.oneCell (Views.own 4 rfl) h.2 | exact Views.oneCell (Views.own 5 rfl) h.2 | exact Views.oneCell (by assumption) h.2) 2 rfl ?_))
                | (refine wl rfl (op_storeC (o := 9) h rfl rfl K.sz_string (by first | rfl | assumption | exact Views.oneCell (Views.own 0 rfl) h.2 | exact Views.oneCell (Views.own 1 rfl) h.2 | exact Views.oneCell (Views.own 2 rfl) h.2 | exact Views.oneCell (Views.own 3 rfl) h.2 | exact Views.oneCell (Views.own 4 rfl) h.2 | exact Views.oneCell (Views.own 5 rfl) h.2 | exact Views.oneCell (by assumption) h.2) 3 rfl ?_))
                | (refine wl rfl (op_storeC (o := 9) h rfl rfl K.sz_string (by first | rfl | assumption | exact Views.oneCell (Views.own 0 rfl) h.2 | exact Views.oneCell (Views.own 1 rfl) h.2 | exact Views.oneCell (Views.own 2 rfl) h.2 | exact Views.oneCell (Views.own 3 rfl) h.2 | exact Views.oneCell (Views.own 4 rfl) h.2 | exact Views.oneCell (Views.own 5 rfl) h.2 | exact Views.oneCell (by assumption) h.2) 4 rfl ?_))
                | (refine wl rfl (op_storeC (o := 9) h rfl rfl K.sz_string (by first | rfl | assumption | exact Views.oneCell (Views.own 0 rfl) h.2 | exact Views.oneCell (Views.own 1 rfl) h.2 | exact Views.oneCell (Views.own 2 rfl) h.2 | exact Views.oneCell (Views.own 3 rfl) h.2 | exact Views.oneCell (Views.own 4 rfl) h.2 | exact Views.oneCell (Views.own 5 rfl) h.2 | exact Views.oneCell (by assumption) h.2) 5 rfl ?_))
                | (refine wl rfl (op_storeC (o := 9) h rfl rfl K.sz_string (by first | rfl | assumption | exact Views.oneCell (Views.own 0 rfl) h.2 | exact Views.oneCell (Views.own 1 rfl) h.2 | exact Views.oneCell (Views.own 2 rfl) h.2 | exact Views.oneCell (Views.own 3 rfl) h.2 | exact Views.oneCell (Views.own 4 rfl) h.2 | exact Views.oneCell (Views.own 5 rfl) h.2 | exact Views.oneCell (by assumption) h.2) 6 rfl ?_))
        clear h a w; intro a w h
        (try simp only [List.set_cons_zero, List.set_cons_succ] at h)
        refine wnil ?_
        exact ⟨⟨nid, nk, 0, no, [], 1 + ((ac.b % 30).toNat : Int), 1 + ((ac.c % 30).toNat : Int), tx1, tx2, tx3⟩, h.keep [0, 3, 4, 5, 6], trivial⟩
      ·
       refine c_seq (c_region ?_)
       refine wv h (r_fieldAddr h 2 rfl K.u_interleafref09_Act rfl K.sz_uint8 rfl rfl) rfl ?_
       clear h a w; intro a w h
       first
              | (refine wv h (r_ldN h rfl K.u_uint8 rfl 0 rfl rfl) rfl ?_)
              | (refine wv h (r_ldN h rfl K.u_uint8 rfl 1 rfl rfl) rfl ?_)
              | (refine wv h (r_ldN h rfl K.u_uint8 rfl 2 rfl rfl) rfl ?_)
              | (refine wv h (r_ldN h rfl K.u_uint8 rfl 3 rfl rfl) rfl ?_)
              | (refine wv h (r_ldN h rfl K.u_uint8 rfl 4 rfl rfl) rfl ?_)
              | (refine wv h (r_ldN h rfl K.u_uint8 rfl 5 rfl rfl) rfl ?_)
              | (refine wv h (r_ldN h rfl K.u_uint8 rfl 6 rfl rfl) rfl ?_)
              | (refine wv h (r_ldC (o := 2) h rfl K.u_uint8 rfl 0 rfl) rfl ?_)
              | (refine wv h (r_ldC (o := 2) h rfl K.u_uint8 rfl 1 rfl) rfl ?_)
              | (refine wv h (r_ldC (o := 2) h rfl K.u_uint8 rfl 2 rfl) rfl ?_)
              | (refine wv h (r_ldC (o := 2) h rfl K.u_uint8 rfl 3 rfl) rfl ?_)
              | (refine wv h (r_ldC (o := 2) h rfl K.u_uint8 rfl 4 rfl) rfl ?_)
              | (refine wv h (r_ldC (o := 2) h rfl K.u_uint8 rfl 5 rfl) rfl ?_)
              | (refine wv h (r_ldC (o := 2) h rfl K.u_uint8 rfl 6 rfl) rfl ?_)
              | (refine wv h (r_load h rfl K.u_uint8 rfl 0 rfl rfl) rfl ?_)
              | (refine wv h (r_load h rfl K.u_uint8 rfl 1 rfl rfl) rfl ?_)
              | (refine wv h (r_load h rfl K.u_uint8 rfl 2 rfl rfl) rfl ?_)
              | (refine wv h (r_load h rfl K.u_uint8 rfl 3 rfl rfl) rfl ?_)
              | (refine wv h (r_load h rfl K.u_uint8 rfl 4 rfl rfl) rfl ?_)
              | (refine wv h (r_load h rfl K.u_uint8 rfl 5 rfl rfl) rfl ?_)
              | (refine wv h (r_load1 h rfl K.u_uint8 rfl (by assumption)) rfl ?_)
       clear h a w; intro a w h
       refine wv h (r_bin h rfl rfl (B.rem_u8 (y := 8) (by decide))) rfl ?_
       clear h a w; intro a w h
       refine wv h (r_conv h rfl K.u_uint8 K.u_int (C.i64_u8) ) rfl ?_
       clear h a w; intro a w h
       refine wv h (r_fieldAddr h 2 rfl K.u_api_Elem rfl K.sz_int rfl rfl) rfl ?_
       clear h a w; intro a w h
       first
              | (refine wl rfl (op_storeN h rfl rfl K.sz_int (by first | rfl | assumption | exact Views.oneCell (Views.own 0 rfl) h.2 | exact Views.oneCell (Views.own 1 rfl) h.2 | exact Views.oneCell (Views.own 2 rfl) h.2 | exact Views.oneCell (Views.own 3 rfl) h.2 | exact Views.oneCell (Views.own 4 rfl) h.2 | exact Views.oneCell (Views.own 5 rfl) h.2 | exact Views.oneCell (by assumption) h.2) 0 rfl rfl ?_))
              | (refine wl rfl (op_storeN h rfl rfl K.sz_int (by first | rfl | assumption | exact Views.oneCell (Views.own 0 rfl) h.2 | exact Views.oneCell (Views.own 1 rfl) h.2 | exact Views.oneCell (Views.own 2 rfl) h.2 | exact Views.oneCell (Views.own 3 rfl) h.2 | exact Views.oneCell (Views.own 4 rfl) h.2 | exact Views.oneCell (Views.own 5 rfl) h.2 | exact Views.oneCell (by assumption) h.2) 1 rfl rfl ?_))
              | (refine wl rfl (op_storeN h rfl rfl K.sz_int (by first | rfl | assumption | exact Views.oneCell (Views.own 0 rfl) h.2 | exact Views.oneCell (Views.own 1 rfl) h.2 | exact Views.oneCell (Views.own 2 rfl) h.2 | exact Views.oneCell (Views.own 3 rfl) h.2 | exact Views.oneCell (Views.own 4 rfl) h.2 | exact Views.oneCell (Views.own 5 rfl) h.2 | exact Views.oneCell (by assumption) h.2) 2 rfl rfl ?_))
              | (refine wl rfl (op_storeN h rfl rfl K.sz_int (by first | rfl | assumption | exact Views.oneCell (Views.own 0 rfl) h.2 | exact Views.oneCell (Views.own 1 rfl) h.2 | exact Views.oneCell (Views.own 2 rfl) h.2 | exact Views.oneCell (Views.own 3 rfl) h.2 | exact Views.oneCell (Views.own 4 rfl) h.2 | exact Views.oneCell (Views.own 5 rfl) h.2 | exact Views.oneCell (by assumption) h.2) 3 rfl rfl ?_))
              | (refine wl rfl (op_storeN h rfl rfl K.sz_int (by first | rfl | assumption | exact Views.oneCell (Views.own 0 rfl) h.2 | exact Views.oneCell (Views.own 1 rfl) h.2 | exact Views.oneCell (Views.own 2 rfl) h.2 | exact Views.oneCell (Views.own 3 rfl) h.2 | exact Views.oneCell (Views.own 4 rfl) h.2 | exact Views.oneCell (Views.own 5 rfl) h.2 | exact Views.oneCell (by assumption) h.2) 4 rfl rfl ?_))
              | (refine wl rfl (op_storeN h rfl rfl K.sz_int (by first | rfl | assumption | exact Views.oneCell (Views.own 0 rfl) h.2 | exact Views.oneCell (Views.own 1 rfl) h.2 | exact Views.oneCell (Views.own 2 rfl) h.2 | exact Views.oneCell (Views.own 3 rfl) h.2 | exact Views.oneCell (Views.own 4 rfl) h.2 | exact Views.oneCell (Views.own 5 rfl) h.2 | exact Views.oneCell (by assumption) h.2) 5 rfl rfl ?_))
              | (refine wl rfl (op_storeN h rfl rfl K.sz_int (by first | rfl | assumption | exact Views.oneCell (Views.own 0 rfl) h.2 | exact Views.oneCell (Views.own 1 rfl) h.2 | exact Views.oneCell (Views.own 2 rfl) h.2 | exact Views.oneCell (Views.own 3 rfl) h.2 | exact Views.oneCell (Views.own 4 rfl) h.2 | exact Views.oneCell (Views.own 5 rfl) h.2 | exact Views.oneCell (by assumption) h.2) 6 rfl rfl ?_))
              | (refine wl rfl (op_storeC (o := 2) h rfl rfl K.sz_int (by first | rfl | assumption | exact Views.oneCell (Views.own 0 rfl) h.2 | exact Views.oneCell (Views.own 1 rfl) h.2 | exact Views.oneCell (Views.own 2 rfl) h.2 | exact Views.oneCell (Views.own 3 rfl) h.2 | exact Views.oneCell (Views.own 4 rfl) h.2 | exact Views.oneCell (Views.own 5 rfl) h.2 | exact Views.oneCell (by assumption) h.2) 0 rfl ?_))
              | (refine wl rfl (op_storeC (o := 2) h rfl rfl K.sz_int (by first | rfl | assumption | exact Views.oneCell (Views.own 0 rfl) h.2 | exact Views.oneCell (Views.own 1 rfl) h.2 | exact Views.oneCell (Views.own 2 rfl) h.2 | exact Views.oneCell (Views.own 3 rfl) h.2 | exact Views.oneCell (Views.own 4 rfl) h.2 | exact Views.oneCell (Views.own 5 rfl) h.2 | exact Views.oneCell (by assumption) h.2) 1 rfl ?_))
              | (refine wl rfl (op_storeC (o := 2) h rfl rfl K.sz_int (by first | rfl | assumption | exact Views.oneCell (Views.own 0 rfl) h.2 | exact Views.oneCell (Views.own 1 rfl) h.2 | exact Views.oneCell (Views.own 2 rfl) h.2 | exact Views.oneCell (Views.own 3 rfl) h.2 | exact Views.oneCell (Views.own 4 rfl) h.2 | exact Views.oneCell (Views.own 5 rfl) h.2 | exact Views.oneCell (by assumption) h.2) 2 rfl ?_))
              | (refine wl rfl (op_storeC (o := 2) h rfl rfl K.sz_int (by first | rfl | assumption | exact Views.oneCell (Views.own 0 rfl) h.2 | exact Views.oneCell (Views.own 1 rfl) h.2 | exact Views.oneCell (Views.own 2 rfl) h.2 | exact Views.oneCell (Views.own 3 rfl) h.2 | exact Views.oneCell (Views.own 4 rfl) h.2 | exact Views.oneCell (Views.own 5 rfl) h.2 | exact Views.oneCell (by assumption) h.2) 3 rfl ?_))
              | (refine wl rfl (op_storeC (o := 2) h rfl rfl K.sz_int (by first | rfl | assumption | exact Views.oneCell (Views.own 0 rfl) h.2 | exact Views.oneCell (Views.own 1 rfl) h.2 | exact Views.oneCell (Views.own 2 rfl) h.2 | exact Views.oneCell (Views.own 3 rfl) h.2 | exact Views.oneCell (Views.own 4 rfl) h.2 | exact Views.oneCell (Views.own 5 rfl) h.2 | exact Views.oneCell (by assumption) h.2) 4 rfl ?_))
              | (refine wl rfl (op_storeC (o := 2) h rfl rfl K.sz_int (by first | rfl | assumption | exact Views.oneCell (Views.own 0 rfl) h.2 | exact Views.oneCell (Views.own 1 rfl) h.2 | exact Views.oneCell (Views.own 2 rfl) h.2 | exact Views.oneCell (Views.own 3 rfl) h.2 | exact Views.oneCell (Views.own 4 rfl) h.2 | exact Views.oneCell (Views.own 5 rfl) h.2 | exact Views.oneCell (by assumption) h.2) 5 rfl ?_))
              | (refine wl rfl (op_storeC (o := 2) h rfl rfl K.sz_int (by first | rfl | assumption | exact Views.oneCell (Views.own 0 rfl) h.2 | exact Views.oneCell (Views.own 1 rfl) h.2 | exact Views.oneCell (Views.own 2 rfl) h.2 | exact Views.oneCell (Views.own 3 rfl) h.2 | exact Views.oneCell (Views.own 4 rfl) h.2 | exact Views.oneCell (Views.own 5 rfl) h.2 | exact Views.oneCell (by assumption) h.2) 6 rfl ?_))
       clear h a w; intro a w h
       (try simp only [List.set_cons_zero, List.set_cons_succ] at h)
       refine wnil (c_then ?_)
       refine c_seq (c_region ?_)
       refine wv h (r_fieldAddr h 2 rfl K.u_interleafref09_Act rfl K.sz_uint8 rfl rfl) rfl ?_
       clear h a w; intro a w h
       first
              | (refine wv h (r_ldN h rfl K.u_uint8 rfl 0 rfl rfl) rfl ?_)
              | (refine wv h (r_ldN h rfl K.u_uint8 rfl 1 rfl rfl) rfl ?_)
              | (refine wv h (r_ldN h rfl K.u_uint8 rfl 2 rfl rfl) rfl ?_)
              | (refine wv h (r_ldN h rfl K.u_uint8 rfl 3 rfl rfl) rfl ?_)
              | (refine wv h (r_ldN h rfl K.u_uint8 rfl 4 rfl rfl) rfl ?_)
              | (refine wv h (r_ldN h rfl K.u_uint8 rfl 5 rfl rfl) rfl ?_)
              | (refine wv h (r_ldN h rfl K.u_uint8 rfl 6 rfl rfl) rfl ?_)
              | (refine wv h (r_ldC (o := 2) h rfl K.u_uint8 rfl 0 rfl) rfl ?_)
              | (refine wv h (r_ldC (o := 2) h rfl K.u_uint8 rfl 1 rfl) rfl ?_)
              | (refine wv h (r_ldC (o := 2) h rfl K.u_uint8 rfl 2 rfl) rfl ?_)
              | (refine wv h (r_ldC (o := 2) h rfl K.u_uint8 rfl 3 rfl) rfl ?_)
              | (refine wv h (r_ldC (o := 2) h rfl K.u_uint8 rfl 4 rfl) rfl ?_)
              | (refine wv h (r_ldC (o := 2) h rfl K.u_uint8 rfl 5 rfl) rfl ?_)
              | (refine wv h (r_ldC (o := 2) h rfl K.u_uint8 rfl 6 rfl) rfl ?_)
              | (refine wv h (r_load h rfl K.u_uint8 rfl 0 rfl rfl) rfl ?_)
              | (refine wv h (r_load h rfl K.u_uint8 rfl 1 rfl rfl) rfl ?_)
              | (refine wv h (r_load h rfl K.u_uint8 rfl 2 rfl rfl) rfl ?_)
              | (refine wv h (r_load h rfl K.u_uint8 rfl 3 rfl rfl) rfl ?_)
              | (refine wv h (r_load h rfl K.u_uint8 rfl 4 rfl rfl) rfl ?_)
              | (refine wv h (r_load h rfl K.u_uint8 rfl 5 rfl rfl) rfl ?_)
              | (refine wv h (r_load1 h rfl K.u_uint8 rfl (by assumption)) rfl ?_)
       clear h a w; intro a w h
       refine wv h (r_bin h rfl rfl (B.rem_u8 (y := 3) (by decide))) rfl ?_
       clear h a w; intro a w h
       refine wv h (r_bin h rfl rfl (B.eql_u8 (y := 0))) rfl ?_
       clear h a w; intro a w h
       refine wnil (c_then ?_)
       first
        | refine c_condD h rfl (fun ht4 => ?_) (fun ht4 => ?_)
        | refine c_condP h rfl (by first | (simp only [Bool.and_eq_true, Bool.or_eq_true, Bool.not_eq_true', decide_eq_true_eq, decide_eq_false_iff_not, ne_eq, Bool.not_eq_eq_eq_not, Bool.not_true, beq_iff_eq, bne_iff_ne]; exact Iff.rfl) | exact Iff.rfl) (fun ht4 => ?_) (fun ht4 => ?_)
       ·
        as_aux_lemma =>
         refine c_region ?_
         refine wv h (r_fieldAddr h 2 rfl K.u_api_Elem rfl K.sz_int rfl rfl) rfl ?_
         clear h a w; intro a w h
         first
                  | (refine wl rfl (op_storeN h rfl rfl K.sz_int (by first | rfl | assumption | exact Views.oneCell (Views.own 0 rfl) h.2 | exact Views.oneCell (Views.own 1 rfl) h.2 | exact Views.oneCell (Views.own 2 rfl) h.2 | exact Views.oneCell (Views.own 3 rfl) h.2 | exact Views.oneCell (Views.own 4 rfl) h.2 | exact Views.oneCell (Views.own 5 rfl) h.2 | exact Views.oneCell (by assumption) h.2) 0 rfl rfl ?_))
                  | (refine wl rfl (op_storeN h rfl rfl K.sz_int (by first | rfl | assumption | exact Views.oneCell (Views.own 0 rfl) h.2 | exact Views.oneCell (Views.own 1 rfl) h.2 | exact Views.oneCell (Views.own 2 rfl) h.2 | exact Views.oneCell (Views.own 3 rfl) h.2 | exact Views.oneCell (Views.own 4 rfl) h.2 | exact Views.oneCell (Views.own 5 rfl) h.2 | exact Views.oneCell (by assumption) h.2) 1 rfl rfl ?_))
                  | (refine wl rfl (op_storeN h rfl rfl K.sz_int (by first | rfl | assumption | exact Views.oneCell (Views.own 0 rfl) h.2 | exact Views.oneCell (Views.own 1 rfl) h.2 | exact Views.oneCell (Views.own 2 rfl) h.2 | exact Views.oneCell (Views.own 3 rfl) h.2 | exact Views.oneCell (Views.own 4 rfl) h.2 | exact Views.oneCell (Views.own 5 rfl) h.2 | exact Views.oneCell (by assumption) h.2) 2 rfl rfl ?_))
                  | (refine wl rfl (op_storeN h rfl rfl K.sz_int (by first | rfl | assumption | exact Views.oneCell (Views.own 0 rfl) h.2 | exact Views.oneCell (Views.own 1 rfl) h.2 | exact Views.oneCell (Views.own 2 rfl) h.2 | exact Views.oneCell (Views.own 3 rfl) h.2 | exact Views.oneCell (Views.own 4 rfl) h.2 | exact Views.oneCell (Views.own 5 rfl) h.2 | exact Views.oneCell (by assumption) h.2) 3 rfl rfl ?_))
                  | (refine wl rfl (op_storeN h rfl rfl K.sz_int (by first | rfl | assumption | exact Views.oneCell (Views.own 0 rfl) h.2 | exact Views.oneCell (Views.own 1 rfl) h.2 | exact Views.oneCell (Views.own 2 rfl) h.2 | exact Views.oneCell (Views.own 3 rfl) h.2 | exact Views.oneCell (Views.own 4 rfl) h.2 | exact Views.oneCell (Views.own 5 rfl) h.2 | exact Views.oneCell (by assumption) h.2) 4 rfl rfl ?_))
                  | (refine wl rfl (op_storeN h rfl rfl K.sz_int (by first | rfl | assumption | exact Views.oneCell (Views.own 0 rfl) h.2 | exact Views.oneCell (Views.own 1 rfl) h.2 | exact Views.oneCell (Views.own 2 rfl) h.2 | exact Views.oneCell (Views.own 3 rfl) h.2 | exact Views.oneCell (Views.own 4 rfl) h.2 | exact Views.oneCell (Views.own 5 rfl) h.2 | exact Views.oneCell (by assumption) h.2) 5 rfl rfl ?_))
                  | (refine wl rfl (op_storeN h rfl rfl K.sz_int (by first | rfl | assumption | exact Views.oneCell (Views.own 0 rfl) h.2 | exact Views.oneCell (Views.own 1 rfl) h.2 | exact Views.oneCell (Views.own 2 rfl) h.2 | exact Views.oneCell (Views.own 3 rfl) h.2 | exact Views.oneCell (Views.own 4 rfl) h.2 | exact Views.oneCell (Views.own 5 rfl) h.2 | exact Views.oneCell (by assumption) h.2) 6 rfl rfl ?_))
                  | (refine wl rfl (op_storeC (o := 2) h rfl rfl K.sz_int (by first | rfl | assumption | exact Views.oneCell (Views.own 0 rfl) h.2 | exact Views.oneCell (Views.own 1 rfl) h.2 | exact Views.oneCell (Views.own 2 rfl) h.2 | exact Views.oneCell (Views.own 3 rfl) h.2 | exact Views.oneCell (Views.own 4 rfl) h.2 | exact Views.oneCell (Views.own 5 rfl) h.2 | exact Views.oneCell (by assumption) h.2) 0 rfl ?_))
                  | (refine wl rfl (op_storeC (o := 2) h rfl rfl K.sz_int (by first | rfl | assumption | exact Views.oneCell (Views.own 0 rfl) h.2 | exact Views.oneCell (Views.own 1 rfl) h.2 | exact Views.oneCell (Views.own 2 rfl) h.2 | exact Views.oneCell (Views.own 3 rfl) h.2 | exact Views.oneCell (Views.own 4 rfl) h.2 | exact Views.oneCell (Views.own 5 rfl) h.2 | exact Views.oneCell (by assumption) h.2) 1 rfl ?_))
                  | (refine wl rfl (op_storeC (o := 2) h rfl rfl K.sz_int (by first | rfl | assumption | exact Views.oneCell (Views.own 0 rfl) h.2 | exact Views.oneCell (Views.own 1 rfl) h.2 | exact Views.oneCell (Views.own 2 rfl) h.2 | exact Views.oneCell (Views.own 3 rfl) h.2 | exact Views.oneCell (Views.own 4 rfl) h.2 | exact Views.oneCell (Views.own 5 rfl) h.2 | exact Views.oneCell (by assumption) h.2) 2 rfl ?_))
                  | (refine wl rfl (op_storeC (o := 2) h rfl rfl K.sz_int (by first | rfl | assumption | exact Views.oneCell (Views.own 0 rfl) h.2 | exact Views.oneCell (Views.own 1 rfl) h.2 | exact Views.oneCell (Views.own 2 rfl) h.2 | exact Views.oneCell (Views.own 3 rfl) h.2 | exact Views.oneCell (Views.own 4 rfl) h.2 | exact Views.oneCell (Views.own 5 rfl) h.2 | exact Views.oneCell (by assumption) h.2) 3 rfl ?_))
                  | (refine wl rfl (op_storeC (o := 2) h rfl rfl K.sz_int (by first | rfl | assumption | exact Views.oneCell (Views.own 0 rfl) h.2 | exact Views.oneCell (Views.own 1 rfl) h.2 | exact Views.oneCell (Views.own 2 rfl) h.2 | exact Views.oneCell (Views.own 3 rfl) h.2 | exact Views.oneCell (Views.own 4 rfl) h.2 | exact Views.oneCell (Views.own 5 rfl) h.2 | exact Views.oneCell (by assumption) h.2) 4 rfl ?_))
                  | (refine wl rfl (op_storeC (o := 2) h rfl rfl K.sz_int (by first | rfl | assumption | exact Views.oneCell (Views.own 0 rfl) h.2 | exact Views.oneCell (Views.own 1 rfl) h.2 | exact Views.oneCell (Views.own 2 rfl) h.2 | exact Views.oneCell (Views.own 3 rfl) h.2 | exact Views.oneCell (Views.own 4 rfl) h.2 | exact Views.oneCell (Views.own 5 rfl) h.2 | exact Views.oneCell (by assumption) h.2) 5 rfl ?_))
                  | (refine wl rfl (op_storeC (o := 2) h rfl rfl K.sz_int (by first | rfl | assumption | exact Views.oneCell (Views.own 0 rfl) h.2 | exact Views.oneCell (Views.own 1 rfl) h.2 | exact Views.oneCell (Views.own 2 rfl) h.2 | exact Views.oneCell (Views.own 3 rfl) h.2 | exact Views.oneCell (Views.own 4 rfl) h.2 | exact Views.oneCell (Views.own 5 rfl) h.2 | exact Views.oneCell (by assumption) h.2) 6 rfl ?_))
         clear h a w; intro a w h
         (try simp only [List.set_cons_zero, List.set_cons_succ] at h)
         refine wnil ?_
         exact ⟨⟨nid, nk, 0, no, [], 0, 0, [], [], []⟩, h.keep [0, 3, 4, 5, 6], trivial⟩
       ·
        refine c_skip ?_
        exact ⟨⟨nid, nk, ((ac.b % 8).toNat : Int), no, [], 0, 0, [], [], []⟩, h.keep [0, 3, 4, 5, 6], trivial⟩
     ·
      clear h a w; intro z a w hz h
      obtain ⟨e0, he0⟩ : ∃ e0, e0 = z := ⟨_, rfl⟩
      rw [← he0] at h
      refine c_meet h (X := El) (fun _ => [(0, v), (3, cv), (4, .int .i64 (i : Int)), (6, .pointer (some ⟨b6, 0, none⟩))]) (fun e => Blk b6 (.cells ⟨cellsE e⟩ t_api_Elem) :: Blk b5 (.cells ⟨cellsAc ac⟩ t_interleafref09_Act) :: OwnM 10 cellsE cv c :: F) (fun _ => True) ?_ ?_
      ·
       refine c_seq (c_region ?_)
       first
              | (refine wv h (r_ldA h rfl K.u_api_Elem rfl K.sz_api_Elem 0 rfl (by first | exact Row.len _ | rfl | assumption | (simp; done) | (simp; omega) | omega)) rfl ?_)
              | (refine wv h (r_ldA h rfl K.u_api_Elem rfl K.sz_api_Elem 1 rfl (by first | exact Row.len _ | rfl | assumption | (simp; done) | (simp; omega) | omega)) rfl ?_)
              | (refine wv h (r_ldA h rfl K.u_api_Elem rfl K.sz_api_Elem 2 rfl (by first | exact Row.len _ | rfl | assumption | (simp; done) | (simp; omega) | omega)) rfl ?_)
              | (refine wv h (r_ldA h rfl K.u_api_Elem rfl K.sz_api_Elem 3 rfl (by first | exact Row.len _ | rfl | assumption | (simp; done) | (simp; omega) | omega)) rfl ?_)
              | (refine wv h (r_ldA h rfl K.u_api_Elem rfl K.sz_api_Elem 4 rfl (by first | exact Row.len _ | rfl | assumption | (simp; done) | (simp; omega) | omega)) rfl ?_)
              | (refine wv h (r_ldA h rfl K.u_api_Elem rfl K.sz_api_Elem 5 rfl (by first | exact Row.len _ | rfl | assumption | (simp; done) | (simp; omega) | omega)) rfl ?_)
              | (refine wv h (r_loadCA h rfl K.u_api_Elem rfl K.sz_api_Elem (by assumption) (by first | rfl | assumption | (simp; done) | (simp; omega) | omega)) rfl ?_)
       clear h a w; intro a w h
       refine wl rfl (op_call h rfl K.go_ref09_named (ref09_named s _ _ _ h.2) rfl ?_)
       clear h a w; intro x a w hx h
       (try simp only [List.set_cons_zero, List.set_cons_succ] at h)
       refine wnil (c_then ?_)
       first
        | refine c_condD h rfl (fun ht5 => ?_) (fun ht5 => ?_)
        | refine c_condP h rfl (by first | (simp only [Bool.and_eq_true, Bool.or_eq_true, Bool.not_eq_true', decide_eq_true_eq, decide_eq_false_iff_not, ne_eq, Bool.not_eq_eq_eq_not, Bool.not_true, beq_iff_eq, bne_iff_ne]; exact Iff.rfl) | exact Iff.rfl) (fun ht5 => ?_) (fun ht5 => ?_)
       ·
        as_aux_lemma =>
         refine c_region ?_
         refine wv h (r_fieldAddr h 3 rfl K.u_interleafref09_Act rfl K.sz_uint8 rfl rfl) rfl ?_
         clear h a w; intro a w h
         first
                  | (refine wv h (r_ldN h rfl K.u_uint8 rfl 0 rfl rfl) rfl ?_)
                  | (refine wv h (r_ldN h rfl K.u_uint8 rfl 1 rfl rfl) rfl ?_)
                  | (refine wv h (r_ldN h rfl K.u_uint8 rfl 2 rfl rfl) rfl ?_)
                  | (refine wv h (r_ldN h rfl K.u_uint8 rfl 3 rfl rfl) rfl ?_)
                  | (refine wv h (r_ldN h rfl K.u_uint8 rfl 4 rfl rfl) rfl ?_)
                  | (refine wv h (r_ldN h rfl K.u_uint8 rfl 5 rfl rfl) rfl ?_)
                  | (refine wv h (r_ldN h rfl K.u_uint8 rfl 6 rfl rfl) rfl ?_)
                  | (refine wv h (r_ldC (o := 3) h rfl K.u_uint8 rfl 0 rfl) rfl ?_)
                  | (refine wv h (r_ldC (o := 3) h rfl K.u_uint8 rfl 1 rfl) rfl ?_)
                  | (refine wv h (r_ldC (o := 3) h rfl K.u_uint8 rfl 2 rfl) rfl ?_)
                  | (refine wv h (r_ldC (o := 3) h rfl K.u_uint8 rfl 3 rfl) rfl ?_)
                  | (refine wv h (r_ldC (o := 3) h rfl K.u_uint8 rfl 4 rfl) rfl ?_)
                  | (refine wv h (r_ldC (o := 3) h rfl K.u_uint8 rfl 5 rfl) rfl ?_)
                  | (refine wv h (r_ldC (o := 3) h rfl K.u_uint8 rfl 6 rfl) rfl ?_)
                  | (refine wv h (r_load h rfl K.u_uint8 rfl 0 rfl rfl) rfl ?_)
                  | (refine wv h (r_load h rfl K.u_uint8 rfl 1 rfl rfl) rfl ?_)
                  | (refine wv h (r_load h rfl K.u_uint8 rfl 2 rfl rfl) rfl ?_)
                  | (refine wv h (r_load h rfl K.u_uint8 rfl 3 rfl rfl) rfl ?_)
                  | (refine wv h (r_load h rfl K.u_uint8 rfl 4 rfl rfl) rfl ?_)
                  | (refine wv h (r_load h rfl K.u_uint8 rfl 5 rfl rfl) rfl ?_)
                  | (refine wv h (r_load1 h rfl K.u_uint8 rfl (by assumption)) rfl ?_)
         clear h a w; intro a w h
         refine wv h (r_bin h rfl rfl (B.rem_u8 (y := 26) (by decide))) rfl ?_
         clear h a w; intro a w h
         refine wv h (r_bin h rfl rfl (B.add_u8 (x := 97))) rfl ?_
         clear h a w; intro a w h
         refine wl rfl (op_buildSlice h K.u_S_uint8 K.sz_uint8 K.z_uint8 rfl rfl rfl rfl rfl (by simp [Value.cells, bv, w32, w64, sv]) rfl ?_)
         clear h a w; intro b89 a w h
         replace h := h.toOwnb [97 + ac.c % 26] (NF.zero _) rfl rfl
         refine wv h (r_b2sb h rfl K.u_S_uint8 K.u_uint8 K.u_string (by first | exact ViewsB.own 0 rfl | exact ViewsB.own 1 rfl | exact ViewsB.own 2 rfl | exact ViewsB.own 3 rfl | exact ViewsB.own 4 rfl | exact ViewsB.own 5 rfl | assumption | exact ViewsB.nil _ | exact ViewsB.arr 0 rfl (by first | assumption | rfl | (simp; done)) (Nat.le_refl _) (by simp [maxLen]) | exact ViewsB.arr 1 rfl (by first | assumption | rfl | (simp; done)) (Nat.le_refl _) (by simp [maxLen]) | exact ViewsB.arr 2 rfl (by first | assumption | rfl | (simp; done)) (Nat.le_refl _) (by simp [maxLen]) | exact ViewsB.arr 3 rfl (by first | assumption | rfl | (simp; done)) (Nat.le_refl _) (by simp [maxLen]) | exact ViewsB.arr 4 rfl (by first | assumption | rfl | (simp; done)) (Nat.le_refl _) (by simp [maxLen]) | exact ViewsB.of_drop 1 (by assumption) | exact ViewsB.of_drop 2 (by assumption) | exact ViewsB.of_drop 3 (by assumption) | exact ViewsB.of_drop 4 (by assumption) | exact ViewsB.of_drop 5 (by assumption) | exact ViewsB.of_drop 6 (by assumption) | exact ViewsB.of_drop 7 (by assumption) | exact ViewsB.of_drop 8 (by assumption) | exact ViewsB.of_drop 9 (by assumption) | exact ViewsB.of_drop 10 (by assumption) | exact ViewsB.of_drop 11 (by assumption) | exact ViewsB.of_drop 12 (by assumption) | exact ViewsB.sub (by first | exact ViewsB.own 0 rfl | exact ViewsB.own 1 rfl | exact ViewsB.own 2 rfl | exact ViewsB.own 3 rfl | exact ViewsB.own 4 rfl | exact ViewsB.own 5 rfl | assumption | exact ViewsB.nil _ | exact ViewsB.arr 0 rfl (by first | assumption | rfl | (simp; done)) (Nat.le_refl _) (by simp [maxLen]) | exact ViewsB.arr 1 rfl (by first | assumption | rfl | (simp; done)) (Nat.le_refl _) (by simp [maxLen]) | exact ViewsB.arr 2 rfl (by first | assumption | rfl | (simp; done)) (Nat.le_refl _) (by simp [maxLen]) | exact ViewsB.arr 3 rfl (by first | assumption | rfl | (simp; done)) (Nat.le_refl _) (by simp [maxLen]) | exact ViewsB.arr 4 rfl (by first | assumption | rfl | (simp; done)) (Nat.le_refl _) (by simp [maxLen]) | exact ViewsB.of_drop 1 (by assumption) | exact ViewsB.of_drop 2 (by assumption) | exact ViewsB.of_drop 3 (by assumption) | exact ViewsB.of_drop 4 (by assumption) | exact ViewsB.of_drop 5 (by assumption) | exact ViewsB.of_drop 6 (by assumption) | exact ViewsB.of_drop 7 (by assumption) | exact ViewsB.of_drop 8 (by assumption) | exact ViewsB.of_drop 9 (by assumption) | exact ViewsB.of_drop 10 (by assumption) | exact ViewsB.of_drop 11 (by assumption) | exact ViewsB.of_drop 12 (by assumption)) (by omega) (by first | omega | (simp; done) | (simp; omega)))) rfl ?_
         clear h a w; intro a w h
         refine wv h (r_strcat h rfl rfl (by first | omega | (simp only [List.length_cons, List.length_nil]; omega) | (simp; done) | (simp; omega))) rfl ?_
         clear h a w; intro a w h
         refine wv h (r_fieldAddr h 4 rfl K.u_api_Elem rfl K.sz_string rfl rfl) rfl ?_
         clear h a w; intro a w h
         first
                  | (refine wl rfl (op_storeN h rfl rfl K.sz_string (by first | rfl | assumption | exact Views.oneCell (Views.own 0 rfl) h.2 | exact Views.oneCell (Views.own 1 rfl) h.2 | exact Views.oneCell (Views.own 2 rfl) h.2 | exact Views.oneCell (Views.own 3 rfl) h.2 | exact Views.oneCell (Views.own 4 rfl) h.2 | exact Views.oneCell (Views.own 5 rfl) h.2 | exact Views.oneCell (by assumption) h.2) 0 rfl rfl ?_))
                  | (refine wl rfl (op_storeN h rfl rfl K.sz_string (by first | rfl | assumption | exact Views.oneCell (Views.own 0 rfl) h.2 | exact Views.oneCell (Views.own 1 rfl) h.2 | exact Views.oneCell (Views.own 2 rfl) h.2 | exact Views.oneCell (Views.own 3 rfl) h.2 | exact Views.oneCell (Views.own 4 rfl) h.2 | exact Views.oneCell (Views.own 5 rfl) h.2 | exact Views.oneCell (by assumption) h.2) 1 rfl rfl ?_))
                  | (refine wl rfl (op_storeN h rfl rfl K.sz_string (by first | rfl | assumption | exact Views.oneCell (Views.own 0 rfl) h.2 | exact Views.oneCell (Views.own 1 rfl) h.2 | exact Views.oneCell (Views.own 2 rfl) h.2 | exact Views.oneCell (Views.own 3 rfl) h.2 | exact Views.oneCell (Views.own 4 rfl) h.2 | exact Views.oneCell (Views.own 5 rfl) h.2 | exact Views.oneCell (by assumption) h.2) 2 rfl rfl ?_))
                  | (refine wl rfl (op_storeN h rfl rfl K.sz_string (by first | rfl | assumption | exact Views.oneCell (Views.own 0 rfl) h.2 | exact Views.oneCell (Views.own 1 rfl) h.2 | exact Views.oneCell (Views.own 2 rfl) h.2 | exact Views.oneCell (Views.own 3 rfl) h.2 | exact Views.oneCell (Views.own 4 rfl) h.2 | exact Views.oneCell (Views.own 5 rfl) h.2 | exact Views.oneCell (by assumption) h.2) 3 rfl rfl ?_))
                  | (refine wl rfl (op_storeN h rfl rfl K.sz_string (by first | rfl | assumption | exact Views.oneCell (Views.own 0 rfl) h.2 | exact Views.oneCell (Views.own 1 rfl) h.2 | exact Views.oneCell (Views.own 2 rfl) h.2 | exact Views.oneCell (Views.own 3 rfl) h.2 | exact Views.oneCell (Views.own 4 rfl) h.2 | exact Views.oneCell (Views.own 5 rfl) h.2 | exact Views.oneCell (by assumption) h.2) 4 rfl rfl ?_))
                  | (refine wl rfl (op_storeN h rfl rfl K.sz_string (by first | rfl | assumption | exact Views.oneCell (Views.own 0 rfl) h.2 | exact Views.oneCell (Views.own 1 rfl) h.2 | exact Views.oneCell (Views.own 2 rfl) h.2 | exact Views.oneCell (Views.own 3 rfl) h.2 | exact Views.oneCell (Views.own 4 rfl) h.2 | exact Views.oneCell (Views.own 5 rfl) h.2 | exact Views.oneCell (by assumption) h.2) 5 rfl rfl ?_))
                  | (refine wl rfl (op_storeN h rfl rfl K.sz_string (by first | rfl | assumption | exact Views.oneCell (Views.own 0 rfl) h.2 | exact Views.oneCell (Views.own 1 rfl) h.2 | exact Views.oneCell (Views.own 2 rfl) h.2 | exact Views.oneCell (Views.own 3 rfl) h.2 | exact Views.oneCell (Views.own 4 rfl) h.2 | exact Views.oneCell (Views.own 5 rfl) h.2 | exact Views.oneCell (by assumption) h.2) 6 rfl rfl ?_))
                  | (refine wl rfl (op_storeC (o := 4) h rfl rfl K.sz_string (by first | rfl | assumption | exact Views.oneCell (Views.own 0 rfl) h.2 | exact Views.oneCell (Views.own 1 rfl) h.2 | exact Views.oneCell (Views.own 2 rfl) h.2 | exact Views.oneCell (Views.own 3 rfl) h.2 | exact Views.oneCell (Views.own 4 rfl) h.2 | exact Views.oneCell (Views.own 5 rfl) h.2 | exact Views.oneCell (by assumption) h.2) 0 rfl ?_))
                  | (refine wl rfl (op_storeC (o := 4) h rfl rfl K.sz_string (by first | rfl | assumption | exact Views.oneCell (Views.own 0 rfl) h.2 | exact Views.oneCell (Views.own 1 rfl) h.2 | exact Views.oneCell (Views.own 2 rfl) h.2 | exact Views.oneCell (Views.own 3 rfl) h.2 | exact Views.oneCell (Views.own 4 rfl) h.2 | exact Views.oneCell (Views.own 5 rfl) h.2 | exact Views.oneCell (by assumption) h.2) 1 rfl ?_))
                  | (refine wl rfl (op_storeC (o := 4) h rfl rfl K.sz_string (by first | rfl | assumption | exact Views.oneCell (Views.own 0 rfl) h.2 | exact Views.oneCell (Views.own 1 rfl) h.2 | exact Views.oneCell (Views.own 2 rfl) h.2 | exact Views.oneCell (Views.own 3 rfl) h.2 | exact Views.oneCell (Views.own 4 rfl) h.2 | exact Views.oneCell (Views.own 5 rfl) h.2 | exact Views.oneCell (by assumption) h.2) 2 rfl ?_))
                  | (refine wl rfl (op_storeC (o := 4) h rfl rfl K.sz_string (by first | rfl | assumption | exact Views.oneCell (Views.own 0 rfl) h.2 | exact Views.oneCell (Views.own 1 rfl) h.2 | exact Views.oneCell (Views.own 2 rfl) h.2 | exact Views.oneCell (Views.own 3 rfl) h.2 | exact Views.oneCell (Views.own 4 rfl) h.2 | exact Views.oneCell (Views.own 5 rfl) h.2 | exact Views.oneCell (by assumption) h.2) 3 rfl ?_))
                  | (refine wl rfl (op_storeC (o := 4) h rfl rfl K.sz_string (by first | rfl | assumption | exact Views.oneCell (Views.own 0 rfl) h.2 | exact Views.oneCell (Views.own 1 rfl) h.2 | exact Views.oneCell (Views.own 2 rfl) h.2 | exact Views.oneCell (Views.own 3 rfl) h.2 | exact Views.oneCell (Views.own 4 rfl) h.2 | exact Views.oneCell (Views.own 5 rfl) h.2 | exact Views.oneCell (by assumption) h.2) 4 rfl ?_))
                  | (refine wl rfl (op_storeC (o := 4) h rfl rfl K.sz_string (by first | rfl | assumption | exact Views.oneCell (Views.own 0 rfl) h.2 | exact Views.oneCell (Views.own 1 rfl) h.2 | exact Views.oneCell (Views.own 2 rfl) h.2 | exact Views.oneCell (Views.own 3 rfl) h.2 | exact Views.oneCell (Views.own 4 rfl) h.2 | exact Views.oneCell (Views.own 5 rfl) h.2 | exact Views.oneCell (by assumption) h.2) 5 rfl ?_))
                  | (refine wl rfl (op_storeC (o := 4) h rfl rfl K.sz_string (by first | rfl | assumption | exact Views.oneCell (Views.own 0 rfl) h.2 | exact Views.oneCell (Views.own 1 rfl) h.2 | exact Views.oneCell (Views.own 2 rfl) h.2 | exact Views.oneCell (Views.own 3 rfl) h.2 | exact Views.oneCell (Views.own 4 rfl) h.2 | exact Views.oneCell (Views.own 5 rfl) h.2 | exact Views.oneCell (by assumption) h.2) 6 rfl ?_))
         clear h a w; intro a w h
         (try simp only [List.set_cons_zero, List.set_cons_succ] at h)
         refine wnil ?_
         exact ⟨⟨e0.id, e0.kind, e0.parent, e0.order, [110] ++ [97 + ac.c % 26], e0.src, e0.dst, e0.event, e0.guard, e0.action⟩, (h.drop 1).keep [0, 3, 4, 6], trivial⟩
       ·
        refine c_skip ?_
        exact ⟨e0, h.keep [0, 3, 4, 6], trivial⟩
      ·
       clear h a w; intro z a w hz h
       obtain ⟨e1, he1⟩ : ∃ e1, e1 = z := ⟨_, rfl⟩
       rw [← he1] at h
       refine c_seq (c_region ?_)
       refine wv h (r_move h rfl) rfl ?_
       clear h a w; intro a w h
       first
              | (refine wv h (r_ldA h rfl K.u_api_Elem rfl K.sz_api_Elem 0 rfl (by first | exact Row.len _ | rfl | assumption | (simp; done) | (simp; omega) | omega)) rfl ?_)
              | (refine wv h (r_ldA h rfl K.u_api_Elem rfl K.sz_api_Elem 1 rfl (by first | exact Row.len _ | rfl | assumption | (simp; done) | (simp; omega) | omega)) rfl ?_)
              | (refine wv h (r_ldA h rfl K.u_api_Elem rfl K.sz_api_Elem 2 rfl (by first | exact Row.len _ | rfl | assumption | (simp; done) | (simp; omega) | omega)) rfl ?_)
              | (refine wv h (r_ldA h rfl K.u_api_Elem rfl K.sz_api_Elem 3 rfl (by first | exact Row.len _ | rfl | assumption | (simp; done) | (simp; omega) | omega)) rfl ?_)
              | (refine wv h (r_ldA h rfl K.u_api_Elem rfl K.sz_api_Elem 4 rfl (by first | exact Row.len _ | rfl | assumption | (simp; done) | (simp; omega) | omega)) rfl ?_)
              | (refine wv h (r_ldA h rfl K.u_api_Elem rfl K.sz_api_Elem 5 rfl (by first | exact Row.len _ | rfl | assumption | (simp; done) | (simp; omega) | omega)) rfl ?_)
              | (refine wv h (r_loadCA h rfl K.u_api_Elem rfl K.sz_api_Elem (by assumption) (by first | rfl | assumption | (simp; done) | (simp; omega) | omega)) rfl ?_)
       clear h a w; intro a w h
       refine wl rfl (op_call h rfl K.go_ref09_Put (ref09_Put s _ cv c e1 _ (by first | exact Views.own 0 rfl | exact Views.own 1 rfl | exact Views.own 2 rfl | exact Views.own 3 rfl | exact Views.own 4 rfl | exact Views.own 5 rfl | assumption | exact Views.of_drop 1 (by assumption) | exact Views.of_drop 2 (by assumption) | exact Views.of_drop 3 (by assumption) | exact Views.of_drop 4 (by assumption) | exact Views.of_drop 5 (by assumption) | exact Views.of_drop 6 (by assumption) | exact Views.of_drop 7 (by assumption) | exact Views.of_drop 8 (by assumption) | exact Views.of_drop 9 (by assumption) | exact Views.of_drop 10 (by assumption) | exact Views.of_drop 11 (by assumption) | exact Views.of_drop 12 (by assumption)) (by omega) h.2) rfl ?_)
       clear h a w; intro x95 a w hx95 h
       (try simp only [List.set_cons_zero, List.set_cons_succ] at h)
       obtain ⟨v95, d⟩ := x95
       dsimp only at hx95 h
       refine wv h (r_assign h rfl) rfl ?_
       clear h a w; intro a w h
       refine wnil (c_then ?_)
       refine c_seq (c_region ?_)
       refine wv h (r_move h rfl) rfl ?_
       clear h a w; intro a w h
       refine wl rfl (op_call h rfl K.go_ref09_Check (ref09_Check s _ v95 d _ (by first | exact Views.own 0 rfl | exact Views.own 1 rfl | exact Views.own 2 rfl | exact Views.own 3 rfl | exact Views.own 4 rfl | exact Views.own 5 rfl | assumption | exact Views.of_drop 1 (by assumption) | exact Views.of_drop 2 (by assumption) | exact Views.of_drop 3 (by assumption) | exact Views.of_drop 4 (by assumption) | exact Views.of_drop 5 (by assumption) | exact Views.of_drop 6 (by assumption) | exact Views.of_drop 7 (by assumption) | exact Views.of_drop 8 (by assumption) | exact Views.of_drop 9 (by assumption) | exact Views.of_drop 10 (by assumption) | exact Views.of_drop 11 (by assumption) | exact Views.of_drop 12 (by assumption)) h.2) rfl ?_)
       clear h a w; intro x a w hx h
       (try simp only [List.set_cons_zero, List.set_cons_succ] at h)
       refine wv h (r_move h rfl) rfl ?_
       clear h a w; intro a w h
       refine wv h (r_extractN h rfl rfl) rfl ?_
       clear h a w; intro a w h
       refine wv h (r_extractN h rfl rfl) rfl ?_
       clear h a w; intro a w h
       refine wv h (r_assign h rfl) rfl ?_
       clear h a w; intro a w h
       refine wv h (r_assign h rfl) rfl ?_
       clear h a w; intro a w h
       refine wnil (c_then ?_)
       refine c_seq (c_region ?_)
       refine wv h (r_move h rfl) rfl ?_
       clear h a w; intro a w h
       refine wv h (r_bin h rfl rfl (B.eql_int)) rfl ?_
       clear h a w; intro a w h
       refine wnil (c_then ?_)
       first
        | refine c_condD h rfl (fun ht6 => ?_) (fun ht6 => ?_)
        | refine c_condP h rfl (by first | (simp only [Bool.and_eq_true, Bool.or_eq_true, Bool.not_eq_true', decide_eq_true_eq, decide_eq_false_iff_not, ne_eq, Bool.not_eq_eq_eq_not, Bool.not_true, beq_iff_eq, bne_iff_ne]; exact Iff.rfl) | exact Iff.rfl) (fun ht6 => ?_) (fun ht6 => ?_)
       ·
        as_aux_lemma =>
         refine c_region ?_
         refine wv h (r_move h rfl) rfl ?_
         clear h a w; intro a w h
         refine wv h (r_assign h rfl) rfl ?_
         clear h a w; intro a w h
         refine wnil ?_
         refine b_normal ?_
         refine c_then ?_
         refine c_region ?_
         refine wv h (r_move h rfl) rfl ?_
         clear h a w; intro a w h
         refine wv h (r_bin h rfl rfl (B.add_i64 (by omega) (by omega))) rfl ?_
         clear h a w; intro a w h
         refine wv h (r_assign h rfl) rfl ?_
         clear h a w; intro a w h
         refine wnil ?_
         exact ⟨(i + 1, v95, d), ⟨(h.keep [0, 3, 4]).1, ((h.2.rid 1).rid 1).rid 1⟩, ⟨by show i + 1 ≤ l.length; omega, checkR_zero ht6⟩, by show l.length - (i + 1) < l.length - i; omega⟩
       ·
        refine c_skip ?_
        refine b_normal ?_
        refine c_then ?_
        refine c_region ?_
        refine wv h (r_move h rfl) rfl ?_
        clear h a w; intro a w h
        refine wv h (r_bin h rfl rfl (B.add_i64 (by omega) (by omega))) rfl ?_
        clear h a w; intro a w h
        refine wv h (r_assign h rfl) rfl ?_
        clear h a w; intro a w h
        refine wnil ?_
        exact ⟨(i + 1, cv, c), (h.drop 3).keep [0, 3, 4], ⟨by show i + 1 ≤ l.length; omega, hx2⟩, by show l.length - (i + 1) < l.length - i; omega⟩
   ·
    refine c_exit ?_
    refine e_then ?_
    refine e_then ?_
    refine e_here ?_
    refine c_then ?_
    refine c_seq (c_region ?_)
    refine wv h (r_move h rfl) rfl ?_
    clear h a w; intro a w h
    refine wv h (r_assign h rfl) rfl ?_
    clear h a w; intro a w h
    refine wnil (c_then ?_)
    refine c_ret ?_
    exact ret1 h rfl rfl ⟨(cv, c), rfl, h.2, hx2⟩
end Go.Proofs.K
