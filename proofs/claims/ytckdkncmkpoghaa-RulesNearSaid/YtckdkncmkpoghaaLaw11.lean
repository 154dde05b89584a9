/- The laws of layer 11, walked: near a chart that keeps the rules; each rule; deep ones. -/
import Derived.Test.YtckdkncmkpoghaaRulesc
import Derived.Test.YtckdkncmkpoghaaRef09e
set_option linter.unusedVariables false
set_option linter.unusedSimpArgs false
set_option maxRecDepth 10000
set_option maxHeartbeats 2000000
namespace Go.Proofs.K
open Go.Sl
attribute [local irreducible] Go.Sl.Own Go.Sl.Blk Go.Sl.Sep Go.Sl.Ex Go.Sl.Fact

theorem rulesNear (s w : World) (lv : Value) (l : List Ac) (at_ field : UInt8) (vn : Int) (vs : List UInt8) (more : El) (how : UInt8) (F : List HItem) (hl : Views F 4 lv l.length (l.flatMap cellsAc)) (hs : Sat s w F) :
    Calls P n_law11_RulesNear #[lv, bv at_, bv field, .agg ⟨[.int .i64 vn, sv vs]⟩, .agg ⟨cellsE more⟩, bv how] w (Ret s (fun _ : Unit => .bool true) (fun _ => F) (fun _ => True)) := by
  have hlen := Views.len_le hl hs
  refine enter K.fn_law11_RulesNear rfl K.nt_law11_RulesNear rfl hs ?_
  clear hs w; intro a w h
  refine c_seq (c_region ?_)
  refine wl rfl (op_box h rfl rfl ?_)
  clear h a w; intro b9 a w h
  try simp only [Value.cells] at h
  refine wl rfl (op_box h rfl rfl ?_)
  clear h a w; intro b10 a w h
  try simp only [Value.cells] at h
  refine wv h (r_assign h rfl) rfl ?_
  clear h a w; intro a w h
  refine wnil (c_then ?_)
  refine c_seq ?_
  refine c_seq (c_region ?_)
  refine wl rfl (op_call h rfl K.go_law11_awake (law11_awake s _ _ h.2) rfl ?_)
  clear h a w; intro x a w hx h
  (try simp only [List.set_cons_zero, List.set_cons_succ] at h)
  refine wv h (r_not h rfl) rfl ?_
  clear h a w; intro a w h
  refine wv h (r_move h rfl) rfl ?_
  clear h a w; intro a w h
  refine wvG h (by first | exact .t rfl | exact .f rfl | exact .gt rfl | exact .gf rfl) (fun hg => by (try simp only [↓gval_on hg, ↓gval_and hg] at h); (have hg2 := hg; (try simp only [Bool.and_eq_true, Bool.or_eq_true, Bool.not_eq_true', decide_eq_true_eq, decide_eq_false_iff_not] at hg2)); first | exact r_move h rfl) rfl ?_
  clear h a w; intro a w h
  refine wvG h (by first | exact .t rfl | exact .f rfl | exact .gt rfl | exact .gf rfl) (fun hg => by (try simp only [↓gval_on hg, ↓gval_and hg] at h); (have hg2 := hg; (try simp only [Bool.and_eq_true, Bool.or_eq_true, Bool.not_eq_true', decide_eq_true_eq, decide_eq_false_iff_not] at hg2)); first | exact r_lenV h rfl K.u_S_interleafref09_Act (by first | exact Views.own 0 rfl | exact Views.own 1 rfl | exact Views.own 2 rfl | exact Views.own 3 rfl | exact Views.own 4 rfl | exact Views.own 5 rfl | assumption | exact Views.of_drop 1 (by assumption) | exact Views.of_drop 2 (by assumption) | exact Views.of_drop 3 (by assumption) | exact Views.of_drop 4 (by assumption) | exact Views.of_drop 5 (by assumption) | exact Views.of_drop 6 (by assumption) | exact Views.of_drop 7 (by assumption) | exact Views.of_drop 8 (by assumption) | exact Views.of_drop 9 (by assumption) | exact Views.of_drop 10 (by assumption) | exact Views.of_drop 11 (by assumption) | exact Views.of_drop 12 (by assumption))) rfl ?_
  clear h a w; intro a w h
  refine wvG h (by first | exact .t rfl | exact .f rfl | exact .gt rfl | exact .gf rfl) (fun hg => by (try simp only [↓gval_on hg, ↓gval_and hg] at h); (have hg2 := hg; (try simp only [Bool.and_eq_true, Bool.or_eq_true, Bool.not_eq_true', decide_eq_true_eq, decide_eq_false_iff_not] at hg2)); first | exact r_bin h rfl rfl (B.gtr_int)) rfl ?_
  clear h a w; intro a w h
  first
    | (refine wv h (r_pickA h rfl rfl rfl) rfl ?_)
    | (refine wv h (r_pickO h rfl rfl rfl) rfl ?_)
    | (refine wv h (r_pick_true h rfl rfl) rfl ?_)
    | (refine wv h (r_pick_false h rfl rfl) rfl ?_)
    | (refine wv h (r_pick h rfl rfl rfl) rfl ?_)
  clear h a w; intro a w h
  refine wnil (c_then ?_)
  first
   | refine c_condD h rfl (fun ht1 => ?_) (fun ht1 => ?_)
   | refine c_condP h rfl (by first | (simp only [Bool.and_eq_true, Bool.or_eq_true, Bool.not_eq_true', decide_eq_true_eq, decide_eq_false_iff_not, ne_eq, Bool.not_eq_eq_eq_not, Bool.not_true, beq_iff_eq, bne_iff_ne]; exact Iff.rfl) | exact Iff.rfl) (fun ht1 => ?_) (fun ht1 => ?_)
  ·
   as_aux_lemma =>
    refine c_seq (c_region ?_)
    refine wl rfl (op_call h rfl K.go_law11_awake (law11_awake s _ _ h.2) rfl ?_)
    clear h a w; intro x a w hx h
    (try simp only [List.set_cons_zero, List.set_cons_succ] at h)
    refine wv h (r_assign h rfl) rfl ?_
    clear h a w; intro a w h
    refine wnil (c_then ?_)
    refine c_ret ?_
    exact ret1 h rfl rfl ⟨(), rfl, (by first | exact h.2 | exact h.2.drop 1 | exact h.2.drop 2 | exact h.2.drop 3 | exact h.2.drop 4 | exact h.2.drop 5 | exact h.2.drop 6 | exact h.2.drop 7 | exact h.2.drop 8 | exact h.2.drop 9 | exact h.2.drop 10 | exact h.2.drop 11 | exact h.2.drop 12 | exact h.2.drop 13 | exact h.2.drop 14 | exact h.2.drop 15 | exact h.2.drop 16), trivial⟩
  ·
   refine c_skip ?_
   refine c_then ?_
   refine c_seq (c_region ?_)
   refine wv h (r_move h rfl) rfl ?_
   clear h a w; intro a w h
   refine wl rfl (op_call h rfl K.go_ref09_Make (ref09_Make s _ lv l _ (by first | exact Views.own 0 rfl | exact Views.own 1 rfl | exact Views.own 2 rfl | exact Views.own 3 rfl | exact Views.own 4 rfl | exact Views.own 5 rfl | assumption | exact Views.of_drop 1 (by assumption) | exact Views.of_drop 2 (by assumption) | exact Views.of_drop 3 (by assumption) | exact Views.of_drop 4 (by assumption) | exact Views.of_drop 5 (by assumption) | exact Views.of_drop 6 (by assumption) | exact Views.of_drop 7 (by assumption) | exact Views.of_drop 8 (by assumption) | exact Views.of_drop 9 (by assumption) | exact Views.of_drop 10 (by assumption) | exact Views.of_drop 11 (by assumption) | exact Views.of_drop 12 (by assumption)) h.2) rfl ?_)
   clear h a w; intro x28 a w hx28 h
   (try simp only [List.set_cons_zero, List.set_cons_succ] at h)
   obtain ⟨v28, c⟩ := x28
   dsimp only at hx28 h
   have hcl := (checkR_right hx28).2.1
   refine wv h (r_assign h rfl) rfl ?_
   clear h a w; intro a w h
   refine wnil (c_then ?_)
   refine c_seq ?_
   refine c_seq (c_region ?_)
   refine wv h (r_move h rfl) rfl ?_
   clear h a w; intro a w h
   refine wl rfl (op_call h rfl K.go_rules_Check (rules_Check s _ _ _ _ (by first | exact Views.own 0 rfl | exact Views.own 1 rfl | exact Views.own 2 rfl | exact Views.own 3 rfl | exact Views.own 4 rfl | exact Views.own 5 rfl | assumption | exact Views.of_drop 1 (by assumption) | exact Views.of_drop 2 (by assumption) | exact Views.of_drop 3 (by assumption) | exact Views.of_drop 4 (by assumption) | exact Views.of_drop 5 (by assumption) | exact Views.of_drop 6 (by assumption) | exact Views.of_drop 7 (by assumption) | exact Views.of_drop 8 (by assumption) | exact Views.of_drop 9 (by assumption) | exact Views.of_drop 10 (by assumption) | exact Views.of_drop 11 (by assumption) | exact Views.of_drop 12 (by assumption)) h.2) rfl ?_)
   clear h a w; intro x a w hx h
   (try simp only [List.set_cons_zero, List.set_cons_succ] at h)
   rw [hx28] at h
   refine wl rfl (op_alloc h K.z_api_Fault rfl ?_)
   clear h a w; intro b14 a w h
   first
      | (refine wl rfl (op_stA h rfl rfl K.sz_api_Fault (by first | exact Row.len _ | rfl | assumption | (simp; done) | (simp; omega) | omega) (by first | exact Row.one _ | exact bs_one _ | assumption | (simp; done) | (simp; (repeat' apply And.intro) <;> first | rfl | assumption)) 0 rfl (by first | rfl | assumption | (simp; done) | (simp; omega) | omega) ?_))
      | (refine wl rfl (op_stA h rfl rfl K.sz_api_Fault (by first | exact Row.len _ | rfl | assumption | (simp; done) | (simp; omega) | omega) (by first | exact Row.one _ | exact bs_one _ | assumption | (simp; done) | (simp; (repeat' apply And.intro) <;> first | rfl | assumption)) 1 rfl (by first | rfl | assumption | (simp; done) | (simp; omega) | omega) ?_))
      | (refine wl rfl (op_stA h rfl rfl K.sz_api_Fault (by first | exact Row.len _ | rfl | assumption | (simp; done) | (simp; omega) | omega) (by first | exact Row.one _ | exact bs_one _ | assumption | (simp; done) | (simp; (repeat' apply And.intro) <;> first | rfl | assumption)) 2 rfl (by first | rfl | assumption | (simp; done) | (simp; omega) | omega) ?_))
      | (refine wl rfl (op_stA h rfl rfl K.sz_api_Fault (by first | exact Row.len _ | rfl | assumption | (simp; done) | (simp; omega) | omega) (by first | exact Row.one _ | exact bs_one _ | assumption | (simp; done) | (simp; (repeat' apply And.intro) <;> first | rfl | assumption)) 3 rfl (by first | rfl | assumption | (simp; done) | (simp; omega) | omega) ?_))
      | (refine wl rfl (op_stA h rfl rfl K.sz_api_Fault (by first | exact Row.len _ | rfl | assumption | (simp; done) | (simp; omega) | omega) (by first | exact Row.one _ | exact bs_one _ | assumption | (simp; done) | (simp; (repeat' apply And.intro) <;> first | rfl | assumption)) 4 rfl (by first | rfl | assumption | (simp; done) | (simp; omega) | omega) ?_))
      | (refine wl rfl (op_stA h rfl rfl K.sz_api_Fault (by first | exact Row.len _ | rfl | assumption | (simp; done) | (simp; omega) | omega) (by first | exact Row.one _ | exact bs_one _ | assumption | (simp; done) | (simp; (repeat' apply And.intro) <;> first | rfl | assumption)) 5 rfl (by first | rfl | assumption | (simp; done) | (simp; omega) | omega) ?_))
   clear h a w; intro a w h
   (try simp only [List.set_cons_zero, List.set_cons_succ] at h)
   refine wnil (c_then ?_)
   refine c_seq (c_region ?_)
   refine wv h (r_fieldAddr0 h rfl K.u_api_Fault rfl K.sz_int rfl rfl) rfl ?_
   clear h a w; intro a w h
   first
      | (refine wv h (r_ldN h rfl K.u_int rfl 0 rfl rfl) rfl ?_)
      | (refine wv h (r_ldN h rfl K.u_int rfl 1 rfl rfl) rfl ?_)
      | (refine wv h (r_ldN h rfl K.u_int rfl 2 rfl rfl) rfl ?_)
      | (refine wv h (r_ldN h rfl K.u_int rfl 3 rfl rfl) rfl ?_)
      | (refine wv h (r_ldN h rfl K.u_int rfl 4 rfl rfl) rfl ?_)
      | (refine wv h (r_ldN h rfl K.u_int rfl 5 rfl rfl) rfl ?_)
      | (refine wv h (r_ldN h rfl K.u_int rfl 6 rfl rfl) rfl ?_)
      | (refine wv h (r_ldC (o := 0) h rfl K.u_int rfl 0 rfl) rfl ?_)
      | (refine wv h (r_ldC (o := 0) h rfl K.u_int rfl 1 rfl) rfl ?_)
      | (refine wv h (r_ldC (o := 0) h rfl K.u_int rfl 2 rfl) rfl ?_)
      | (refine wv h (r_ldC (o := 0) h rfl K.u_int rfl 3 rfl) rfl ?_)
      | (refine wv h (r_ldC (o := 0) h rfl K.u_int rfl 4 rfl) rfl ?_)
      | (refine wv h (r_ldC (o := 0) h rfl K.u_int rfl 5 rfl) rfl ?_)
      | (refine wv h (r_ldC (o := 0) h rfl K.u_int rfl 6 rfl) rfl ?_)
      | (refine wv h (r_load h rfl K.u_int rfl 0 rfl rfl) rfl ?_)
      | (refine wv h (r_load h rfl K.u_int rfl 1 rfl rfl) rfl ?_)
      | (refine wv h (r_load h rfl K.u_int rfl 2 rfl rfl) rfl ?_)
      | (refine wv h (r_load h rfl K.u_int rfl 3 rfl rfl) rfl ?_)
      | (refine wv h (r_load h rfl K.u_int rfl 4 rfl rfl) rfl ?_)
      | (refine wv h (r_load h rfl K.u_int rfl 5 rfl rfl) rfl ?_)
      | (refine wv h (r_load1 h rfl K.u_int rfl (by assumption)) rfl ?_)
   clear h a w; intro a w h
   refine wv h (r_bin h rfl rfl (B.neq_int)) rfl ?_
   clear h a w; intro a w h
   refine wnil (c_then ?_)
   first
    | refine c_condD h rfl (fun ht2 => ?_) (fun ht2 => ?_)
    | refine c_condP h rfl (by first | (simp only [Bool.and_eq_true, Bool.or_eq_true, Bool.not_eq_true', decide_eq_true_eq, decide_eq_false_iff_not, ne_eq, Bool.not_eq_eq_eq_not, Bool.not_true, beq_iff_eq, bne_iff_ne]; exact Iff.rfl) | exact Iff.rfl) (fun ht2 => ?_) (fun ht2 => ?_)
   ·
    exfalso
    simp at ht2
   ·
    refine c_skip ?_
    refine c_then ?_
    refine c_meet h (X := Value × List El) (fun x => [(13, x.1)]) (fun x => OwnM 10 cellsE x.1 x.2 :: F) (fun x => x.2.length ≤ 1000) ?_ ?_
    ·
     refine c_seq (c_region ?_)
     refine wv h (r_move h rfl) rfl ?_
     clear h a w; intro a w h
     refine wv h (r_bin h rfl rfl (B.rem_u8 (y := 3) (by decide))) rfl ?_
     clear h a w; intro a w h
     refine wv h (r_bin h rfl rfl (B.eql_u8 (y := 0))) rfl ?_
     clear h a w; intro a w h
     refine wv h (r_move h rfl) rfl ?_
     clear h a w; intro a w h
     refine wvG h (by first | exact .t rfl | exact .f rfl | exact .gt rfl | exact .gf rfl) (fun hg => by (try simp only [↓gval_on hg, ↓gval_and hg] at h); (have hg2 := hg; (try simp only [Bool.and_eq_true, Bool.or_eq_true, Bool.not_eq_true', decide_eq_true_eq, decide_eq_false_iff_not] at hg2)); first | exact r_move h rfl) rfl ?_
     clear h a w; intro a w h
     refine wvG h (by first | exact .t rfl | exact .f rfl | exact .gt rfl | exact .gf rfl) (fun hg => by (try simp only [↓gval_on hg, ↓gval_and hg] at h); (have hg2 := hg; (try simp only [Bool.and_eq_true, Bool.or_eq_true, Bool.not_eq_true', decide_eq_true_eq, decide_eq_false_iff_not] at hg2)); first | exact r_lenV h rfl K.u_api_Chart (by first | exact Views.own 0 rfl | exact Views.own 1 rfl | exact Views.own 2 rfl | exact Views.own 3 rfl | exact Views.own 4 rfl | exact Views.own 5 rfl | assumption | exact Views.of_drop 1 (by assumption) | exact Views.of_drop 2 (by assumption) | exact Views.of_drop 3 (by assumption) | exact Views.of_drop 4 (by assumption) | exact Views.of_drop 5 (by assumption) | exact Views.of_drop 6 (by assumption) | exact Views.of_drop 7 (by assumption) | exact Views.of_drop 8 (by assumption) | exact Views.of_drop 9 (by assumption) | exact Views.of_drop 10 (by assumption) | exact Views.of_drop 11 (by assumption) | exact Views.of_drop 12 (by assumption))) rfl ?_
     clear h a w; intro a w h
     refine wvG h (by first | exact .t rfl | exact .f rfl | exact .gt rfl | exact .gf rfl) (fun hg => by (try simp only [↓gval_on hg, ↓gval_and hg] at h); (have hg2 := hg; (try simp only [Bool.and_eq_true, Bool.or_eq_true, Bool.not_eq_true', decide_eq_true_eq, decide_eq_false_iff_not] at hg2)); first | exact r_bin h rfl rfl (B.eql_int)) rfl ?_
     clear h a w; intro a w h
     first
          | (refine wv h (r_pickA h rfl rfl rfl) rfl ?_)
          | (refine wv h (r_pickO h rfl rfl rfl) rfl ?_)
          | (refine wv h (r_pick_true h rfl rfl) rfl ?_)
          | (refine wv h (r_pick_false h rfl rfl) rfl ?_)
          | (refine wv h (r_pick h rfl rfl rfl) rfl ?_)
     clear h a w; intro a w h
     refine wnil (c_then ?_)
     first
      | refine c_condD h rfl (fun ht3 => ?_) (fun ht3 => ?_)
      | refine c_condP h rfl (by first | (simp only [Bool.and_eq_true, Bool.or_eq_true, Bool.not_eq_true', decide_eq_true_eq, decide_eq_false_iff_not, ne_eq, Bool.not_eq_eq_eq_not, Bool.not_true, beq_iff_eq, bne_iff_ne]; exact Iff.rfl) | exact Iff.rfl) (fun ht3 => ?_) (fun ht3 => ?_)
     ·
      as_aux_lemma =>
       refine c_region ?_
       refine wv h (r_move h rfl) rfl ?_
       clear h a w; intro a w h
       first
              | (refine wv h (r_ldA h rfl K.u_api_Elem rfl K.sz_api_Elem 0 rfl (by first | exact Row.len _ | rfl | assumption | (simp; done) | (simp; omega) | omega)) rfl ?_)
              | (refine wv h (r_ldA h rfl K.u_api_Elem rfl K.sz_api_Elem 1 rfl (by first | exact Row.len _ | rfl | assumption | (simp; done) | (simp; omega) | omega)) rfl ?_)
              | (refine wv h (r_ldA h rfl K.u_api_Elem rfl K.sz_api_Elem 2 rfl (by first | exact Row.len _ | rfl | assumption | (simp; done) | (simp; omega) | omega)) rfl ?_)
              | (refine wv h (r_ldA h rfl K.u_api_Elem rfl K.sz_api_Elem 3 rfl (by first | exact Row.len _ | rfl | assumption | (simp; done) | (simp; omega) | omega)) rfl ?_)
              | (refine wv h (r_ldA h rfl K.u_api_Elem rfl K.sz_api_Elem 4 rfl (by first | exact Row.len _ | rfl | assumption | (simp; done) | (simp; omega) | omega)) rfl ?_)
              | (refine wv h (r_ldA h rfl K.u_api_Elem rfl K.sz_api_Elem 5 rfl (by first | exact Row.len _ | rfl | assumption | (simp; done) | (simp; omega) | omega)) rfl ?_)
              | (refine wv h (r_loadCA h rfl K.u_api_Elem rfl K.sz_api_Elem (by assumption) (by first | rfl | assumption | (simp; done) | (simp; omega) | omega)) rfl ?_)
       clear h a w; intro a w h
       refine wl rfl (op_call h rfl K.go_ref09_Put (ref09_Put s _ v28 c more _ (Views.own 1 rfl) (by omega) h.2) rfl ?_)
       clear h a w; intro x44 a w hx44 h
       (try simp only [List.set_cons_zero, List.set_cons_succ] at h)
       refine wv h (r_assign h rfl) rfl ?_
       clear h a w; intro a w h
       refine wnil ?_
       exact ⟨(x44.1, x44.2), ⟨(h.keep [13]).1, by first | exact (((h.2.rid 1).rid 1).rid 1).rid 1⟩, by have : x44.2.length ≤ c.length + 1 := hx44; show x44.2.length ≤ 1000; omega⟩
     ·
      obtain ⟨j, hj⟩ : ∃ j, j = at_.toNat % c.length := ⟨_, rfl⟩
      have hc0 : 0 < c.length := by
        rcases Nat.eq_zero_or_pos c.length with q | q
        · exfalso; simp [q] at ht3
        · exact q
      have hjl : j < c.length := by rw [hj]; exact Nat.mod_lt _ hc0
      obtain ⟨e, hee⟩ := get_some hjl
      obtain ⟨e0, hee0⟩ := get_some hc0
      refine c_seq (c_region ?_)
      refine wv h (r_move h rfl) rfl ?_
      clear h a w; intro a w h
      refine wv h (r_conv h rfl K.u_uint8 K.u_int (C.i64_u8) ) rfl ?_
      clear h a w; intro a w h
      refine wv h (r_move h rfl) rfl ?_
      clear h a w; intro a w h
      refine wv h (r_lenV h rfl K.u_api_Chart (by first | exact Views.own 0 rfl | exact Views.own 1 rfl | exact Views.own 2 rfl | exact Views.own 3 rfl | exact Views.own 4 rfl | exact Views.own 5 rfl | assumption | exact Views.of_drop 1 (by assumption) | exact Views.of_drop 2 (by assumption) | exact Views.of_drop 3 (by assumption) | exact Views.of_drop 4 (by assumption) | exact Views.of_drop 5 (by assumption) | exact Views.of_drop 6 (by assumption) | exact Views.of_drop 7 (by assumption) | exact Views.of_drop 8 (by assumption) | exact Views.of_drop 9 (by assumption) | exact Views.of_drop 10 (by assumption) | exact Views.of_drop 11 (by assumption) | exact Views.of_drop 12 (by assumption))) rfl ?_
      clear h a w; intro a w h
      refine wv h (r_bin h rfl rfl (B.rem_i64 (by omega) (by omega))) rfl ?_
      clear h a w; intro a w h
      rw [show ((at_.toNat : Int) % (c.length : Int)) = (j : Int) by rw [hj]; simp] at h
      refine wv h (r_assign h rfl) rfl ?_
      clear h a w; intro a w h
      refine wnil (c_then ?_)
      refine c_seq (c_region ?_)
      refine wv h (r_move h rfl) rfl ?_
      clear h a w; intro a w h
      refine wv h (r_bin h rfl rfl (B.rem_u8 (y := 9) (by decide))) rfl ?_
      clear h a w; intro a w h
      refine wnil (c_then ?_)
      refine c_block ?_
      refine c_seq (c_region ?_)
      refine wv h (r_bin h rfl rfl (B.eql_u8 (y := 0))) rfl ?_
      clear h a w; intro a w h
      refine wv h (r_assign h rfl) rfl ?_
      clear h a w; intro a w h
      refine wnil (c_then ?_)
      first
       | refine c_condD h rfl (fun ht4 => ?_) (fun ht4 => ?_)
       | refine c_condP h rfl (by first | (simp only [Bool.and_eq_true, Bool.or_eq_true, Bool.not_eq_true', decide_eq_true_eq, decide_eq_false_iff_not, ne_eq, Bool.not_eq_eq_eq_not, Bool.not_true, beq_iff_eq, bne_iff_ne]; exact Iff.rfl) | exact Iff.rfl) (fun ht4 => ?_) (fun ht4 => ?_)
      ·
       as_aux_lemma =>
        refine c_region ?_
        refine wv h (r_move h rfl) rfl ?_
        clear h a w; intro a w h
        refine wv h (r_move h rfl) rfl ?_
        clear h a w; intro a w h
        refine wv h (r_fieldAddr0 h rfl K.u_api_Val rfl K.sz_int rfl rfl) rfl ?_
        clear h a w; intro a w h
        first
                | (refine wv h (r_ldN h rfl K.u_int rfl 0 rfl rfl) rfl ?_)
                | (refine wv h (r_ldN h rfl K.u_int rfl 1 rfl rfl) rfl ?_)
                | (refine wv h (r_ldN h rfl K.u_int rfl 2 rfl rfl) rfl ?_)
                | (refine wv h (r_ldN h rfl K.u_int rfl 3 rfl rfl) rfl ?_)
                | (refine wv h (r_ldN h rfl K.u_int rfl 4 rfl rfl) rfl ?_)
                | (refine wv h (r_ldN h rfl K.u_int rfl 5 rfl rfl) rfl ?_)
                | (refine wv h (r_ldN h rfl K.u_int rfl 6 rfl rfl) rfl ?_)
                | (refine wv h (r_ldC (o := 0) h rfl K.u_int rfl 0 rfl) rfl ?_)
                | (refine wv h (r_ldC (o := 0) h rfl K.u_int rfl 1 rfl) rfl ?_)
                | (refine wv h (r_ldC (o := 0) h rfl K.u_int rfl 2 rfl) rfl ?_)
                | (refine wv h (r_ldC (o := 0) h rfl K.u_int rfl 3 rfl) rfl ?_)
                | (refine wv h (r_ldC (o := 0) h rfl K.u_int rfl 4 rfl) rfl ?_)
                | (refine wv h (r_ldC (o := 0) h rfl K.u_int rfl 5 rfl) rfl ?_)
                | (refine wv h (r_ldC (o := 0) h rfl K.u_int rfl 6 rfl) rfl ?_)
                | (refine wv h (r_load h rfl K.u_int rfl 0 rfl rfl) rfl ?_)
                | (refine wv h (r_load h rfl K.u_int rfl 1 rfl rfl) rfl ?_)
                | (refine wv h (r_load h rfl K.u_int rfl 2 rfl rfl) rfl ?_)
                | (refine wv h (r_load h rfl K.u_int rfl 3 rfl rfl) rfl ?_)
                | (refine wv h (r_load h rfl K.u_int rfl 4 rfl rfl) rfl ?_)
                | (refine wv h (r_load h rfl K.u_int rfl 5 rfl rfl) rfl ?_)
                | (refine wv h (r_load1 h rfl K.u_int rfl (by assumption)) rfl ?_)
        clear h a w; intro a w h
        refine wv h (r_conv h rfl K.u_int K.u_uint8 (C.u8_i64) ) rfl ?_
        clear h a w; intro a w h
        refine wv h (r_elP h rfl rfl K.u_api_Chart K.sz_api_Elem (by first | exact Views.own 0 rfl | exact Views.own 1 rfl | exact Views.own 2 rfl | exact Views.own 3 rfl | exact Views.own 4 rfl | exact Views.own 5 rfl | assumption | exact Views.of_drop 1 (by assumption) | exact Views.of_drop 2 (by assumption) | exact Views.of_drop 3 (by assumption) | exact Views.of_drop 4 (by assumption) | exact Views.of_drop 5 (by assumption) | exact Views.of_drop 6 (by assumption) | exact Views.of_drop 7 (by assumption) | exact Views.of_drop 8 (by assumption) | exact Views.of_drop 9 (by assumption) | exact Views.of_drop 10 (by assumption) | exact Views.of_drop 11 (by assumption) | exact Views.of_drop 12 (by assumption)) (by first | omega | (simp; done)) (by first | omega | (simp only [List.length_cons, List.length_nil]; omega) | (simp; done) | (simp; omega))) rfl ?_
        clear h a w; intro a w h
        refine wv h (r_elF h 1 rfl K.u_api_Elem rfl K.sz_uint8 rfl rfl (by first | exact Views.own 0 rfl | exact Views.own 1 rfl | exact Views.own 2 rfl | exact Views.own 3 rfl | exact Views.own 4 rfl | exact Views.own 5 rfl | assumption | exact Views.of_drop 1 (by assumption) | exact Views.of_drop 2 (by assumption) | exact Views.of_drop 3 (by assumption) | exact Views.of_drop 4 (by assumption) | exact Views.of_drop 5 (by assumption) | exact Views.of_drop 6 (by assumption) | exact Views.of_drop 7 (by assumption) | exact Views.of_drop 8 (by assumption) | exact Views.of_drop 9 (by assumption) | exact Views.of_drop 10 (by assumption) | exact Views.of_drop 11 (by assumption) | exact Views.of_drop 12 (by assumption)) (by first | omega | (simp only [List.length_cons, List.length_nil]; omega) | (simp; done) | (simp; omega))) rfl ?_
        clear h a w; intro a w h
        refine wl rfl (op_storeRf (cells := cellsE) (l := c) h { e with kind := UInt8.ofInt vn } rfl rfl K.sz_uint8 rfl hee (by decide) rfl 1 rfl ?_)
        clear h a w; intro a w h
        refine wnil ?_
        refine b_normal ?_
        exact ⟨(v28, _), ⟨(h.keep [13]).1, (((h.2.rid 0).rid 1).rid 1)⟩, by simp only [List.length_set]; omega⟩
      ·
       refine c_seq (c_region ?_)
       refine wv h (r_bin h rfl rfl (B.eql_u8 (y := 1))) rfl ?_
       clear h a w; intro a w h
       refine wv h (r_assign h rfl) rfl ?_
       clear h a w; intro a w h
       refine wnil (c_then ?_)
       first
        | refine c_condD h rfl (fun ht5 => ?_) (fun ht5 => ?_)
        | refine c_condP h rfl (by first | (simp only [Bool.and_eq_true, Bool.or_eq_true, Bool.not_eq_true', decide_eq_true_eq, decide_eq_false_iff_not, ne_eq, Bool.not_eq_eq_eq_not, Bool.not_true, beq_iff_eq, bne_iff_ne]; exact Iff.rfl) | exact Iff.rfl) (fun ht5 => ?_) (fun ht5 => ?_)
       ·
        as_aux_lemma =>
         refine c_region ?_
         refine wv h (r_move h rfl) rfl ?_
         clear h a w; intro a w h
         refine wv h (r_move h rfl) rfl ?_
         clear h a w; intro a w h
         refine wv h (r_fieldAddr0 h rfl K.u_api_Val rfl K.sz_int rfl rfl) rfl ?_
         clear h a w; intro a w h
         first
                  | (refine wv h (r_ldN h rfl K.u_int rfl 0 rfl rfl) rfl ?_)
                  | (refine wv h (r_ldN h rfl K.u_int rfl 1 rfl rfl) rfl ?_)
                  | (refine wv h (r_ldN h rfl K.u_int rfl 2 rfl rfl) rfl ?_)
                  | (refine wv h (r_ldN h rfl K.u_int rfl 3 rfl rfl) rfl ?_)
                  | (refine wv h (r_ldN h rfl K.u_int rfl 4 rfl rfl) rfl ?_)
                  | (refine wv h (r_ldN h rfl K.u_int rfl 5 rfl rfl) rfl ?_)
                  | (refine wv h (r_ldN h rfl K.u_int rfl 6 rfl rfl) rfl ?_)
                  | (refine wv h (r_ldC (o := 0) h rfl K.u_int rfl 0 rfl) rfl ?_)
                  | (refine wv h (r_ldC (o := 0) h rfl K.u_int rfl 1 rfl) rfl ?_)
                  | (refine wv h (r_ldC (o := 0) h rfl K.u_int rfl 2 rfl) rfl ?_)
                  | (refine wv h (r_ldC (o := 0) h rfl K.u_int rfl 3 rfl) rfl ?_)
                  | (refine wv h (r_ldC (o := 0) h rfl K.u_int rfl 4 rfl) rfl ?_)
                  | (refine wv h (r_ldC (o := 0) h rfl K.u_int rfl 5 rfl) rfl ?_)
                  | (refine wv h (r_ldC (o := 0) h rfl K.u_int rfl 6 rfl) rfl ?_)
                  | (refine wv h (r_load h rfl K.u_int rfl 0 rfl rfl) rfl ?_)
                  | (refine wv h (r_load h rfl K.u_int rfl 1 rfl rfl) rfl ?_)
                  | (refine wv h (r_load h rfl K.u_int rfl 2 rfl rfl) rfl ?_)
                  | (refine wv h (r_load h rfl K.u_int rfl 3 rfl rfl) rfl ?_)
                  | (refine wv h (r_load h rfl K.u_int rfl 4 rfl rfl) rfl ?_)
                  | (refine wv h (r_load h rfl K.u_int rfl 5 rfl rfl) rfl ?_)
                  | (refine wv h (r_load1 h rfl K.u_int rfl (by assumption)) rfl ?_)
         clear h a w; intro a w h
         refine wv h (r_elP h rfl rfl K.u_api_Chart K.sz_api_Elem (by first | exact Views.own 0 rfl | exact Views.own 1 rfl | exact Views.own 2 rfl | exact Views.own 3 rfl | exact Views.own 4 rfl | exact Views.own 5 rfl | assumption | exact Views.of_drop 1 (by assumption) | exact Views.of_drop 2 (by assumption) | exact Views.of_drop 3 (by assumption) | exact Views.of_drop 4 (by assumption) | exact Views.of_drop 5 (by assumption) | exact Views.of_drop 6 (by assumption) | exact Views.of_drop 7 (by assumption) | exact Views.of_drop 8 (by assumption) | exact Views.of_drop 9 (by assumption) | exact Views.of_drop 10 (by assumption) | exact Views.of_drop 11 (by assumption) | exact Views.of_drop 12 (by assumption)) (by first | omega | (simp; done)) (by first | omega | (simp only [List.length_cons, List.length_nil]; omega) | (simp; done) | (simp; omega))) rfl ?_
         clear h a w; intro a w h
         refine wv h (r_elF h 2 rfl K.u_api_Elem rfl K.sz_int rfl rfl (by first | exact Views.own 0 rfl | exact Views.own 1 rfl | exact Views.own 2 rfl | exact Views.own 3 rfl | exact Views.own 4 rfl | exact Views.own 5 rfl | assumption | exact Views.of_drop 1 (by assumption) | exact Views.of_drop 2 (by assumption) | exact Views.of_drop 3 (by assumption) | exact Views.of_drop 4 (by assumption) | exact Views.of_drop 5 (by assumption) | exact Views.of_drop 6 (by assumption) | exact Views.of_drop 7 (by assumption) | exact Views.of_drop 8 (by assumption) | exact Views.of_drop 9 (by assumption) | exact Views.of_drop 10 (by assumption) | exact Views.of_drop 11 (by assumption) | exact Views.of_drop 12 (by assumption)) (by first | omega | (simp only [List.length_cons, List.length_nil]; omega) | (simp; done) | (simp; omega))) rfl ?_
         clear h a w; intro a w h
         refine wl rfl (op_storeRf (cells := cellsE) (l := c) h { e with parent := vn } rfl rfl K.sz_int rfl hee (by decide) rfl 1 rfl ?_)
         clear h a w; intro a w h
         refine wnil ?_
         refine b_normal ?_
         exact ⟨(v28, _), ⟨(h.keep [13]).1, (((h.2.rid 0).rid 1).rid 1)⟩, by simp only [List.length_set]; omega⟩
       ·
        refine c_seq (c_region ?_)
        refine wv h (r_bin h rfl rfl (B.eql_u8 (y := 2))) rfl ?_
        clear h a w; intro a w h
        refine wv h (r_assign h rfl) rfl ?_
        clear h a w; intro a w h
        refine wnil (c_then ?_)
        first
         | refine c_condD h rfl (fun ht6 => ?_) (fun ht6 => ?_)
         | refine c_condP h rfl (by first | (simp only [Bool.and_eq_true, Bool.or_eq_true, Bool.not_eq_true', decide_eq_true_eq, decide_eq_false_iff_not, ne_eq, Bool.not_eq_eq_eq_not, Bool.not_true, beq_iff_eq, bne_iff_ne]; exact Iff.rfl) | exact Iff.rfl) (fun ht6 => ?_) (fun ht6 => ?_)
        ·
         as_aux_lemma =>
          refine c_region ?_
          refine wv h (r_move h rfl) rfl ?_
          clear h a w; intro a w h
          refine wv h (r_move h rfl) rfl ?_
          clear h a w; intro a w h
          refine wv h (r_fieldAddr0 h rfl K.u_api_Val rfl K.sz_int rfl rfl) rfl ?_
          clear h a w; intro a w h
          first
                    | (refine wv h (r_ldN h rfl K.u_int rfl 0 rfl rfl) rfl ?_)
                    | (refine wv h (r_ldN h rfl K.u_int rfl 1 rfl rfl) rfl ?_)
                    | (refine wv h (r_ldN h rfl K.u_int rfl 2 rfl rfl) rfl ?_)
                    | (refine wv h (r_ldN h rfl K.u_int rfl 3 rfl rfl) rfl ?_)
                    | (refine wv h (r_ldN h rfl K.u_int rfl 4 rfl rfl) rfl ?_)
                    | (refine wv h (r_ldN h rfl K.u_int rfl 5 rfl rfl) rfl ?_)
                    | (refine wv h (r_ldN h rfl K.u_int rfl 6 rfl rfl) rfl ?_)
                    | (refine wv h (r_ldC (o := 0) h rfl K.u_int rfl 0 rfl) rfl ?_)
                    | (refine wv h (r_ldC (o := 0) h rfl K.u_int rfl 1 rfl) rfl ?_)
                    | (refine wv h (r_ldC (o := 0) h rfl K.u_int rfl 2 rfl) rfl ?_)
                    | (refine wv h (r_ldC (o := 0) h rfl K.u_int rfl 3 rfl) rfl ?_)
                    | (refine wv h (r_ldC (o := 0) h rfl K.u_int rfl 4 rfl) rfl ?_)
                    | (refine wv h (r_ldC (o := 0) h rfl K.u_int rfl 5 rfl) rfl ?_)
                    | (refine wv h (r_ldC (o := 0) h rfl K.u_int rfl 6 rfl) rfl ?_)
                    | (refine wv h (r_load h rfl K.u_int rfl 0 rfl rfl) rfl ?_)
                    | (refine wv h (r_load h rfl K.u_int rfl 1 rfl rfl) rfl ?_)
                    | (refine wv h (r_load h rfl K.u_int rfl 2 rfl rfl) rfl ?_)
                    | (refine wv h (r_load h rfl K.u_int rfl 3 rfl rfl) rfl ?_)
                    | (refine wv h (r_load h rfl K.u_int rfl 4 rfl rfl) rfl ?_)
                    | (refine wv h (r_load h rfl K.u_int rfl 5 rfl rfl) rfl ?_)
                    | (refine wv h (r_load1 h rfl K.u_int rfl (by assumption)) rfl ?_)
          clear h a w; intro a w h
          refine wv h (r_elP h rfl rfl K.u_api_Chart K.sz_api_Elem (by first | exact Views.own 0 rfl | exact Views.own 1 rfl | exact Views.own 2 rfl | exact Views.own 3 rfl | exact Views.own 4 rfl | exact Views.own 5 rfl | assumption | exact Views.of_drop 1 (by assumption) | exact Views.of_drop 2 (by assumption) | exact Views.of_drop 3 (by assumption) | exact Views.of_drop 4 (by assumption) | exact Views.of_drop 5 (by assumption) | exact Views.of_drop 6 (by assumption) | exact Views.of_drop 7 (by assumption) | exact Views.of_drop 8 (by assumption) | exact Views.of_drop 9 (by assumption) | exact Views.of_drop 10 (by assumption) | exact Views.of_drop 11 (by assumption) | exact Views.of_drop 12 (by assumption)) (by first | omega | (simp; done)) (by first | omega | (simp only [List.length_cons, List.length_nil]; omega) | (simp; done) | (simp; omega))) rfl ?_
          clear h a w; intro a w h
          refine wv h (r_elF h 3 rfl K.u_api_Elem rfl K.sz_int rfl rfl (by first | exact Views.own 0 rfl | exact Views.own 1 rfl | exact Views.own 2 rfl | exact Views.own 3 rfl | exact Views.own 4 rfl | exact Views.own 5 rfl | assumption | exact Views.of_drop 1 (by assumption) | exact Views.of_drop 2 (by assumption) | exact Views.of_drop 3 (by assumption) | exact Views.of_drop 4 (by assumption) | exact Views.of_drop 5 (by assumption) | exact Views.of_drop 6 (by assumption) | exact Views.of_drop 7 (by assumption) | exact Views.of_drop 8 (by assumption) | exact Views.of_drop 9 (by assumption) | exact Views.of_drop 10 (by assumption) | exact Views.of_drop 11 (by assumption) | exact Views.of_drop 12 (by assumption)) (by first | omega | (simp only [List.length_cons, List.length_nil]; omega) | (simp; done) | (simp; omega))) rfl ?_
          clear h a w; intro a w h
          refine wl rfl (op_storeRf (cells := cellsE) (l := c) h { e with order := vn } rfl rfl K.sz_int rfl hee (by decide) rfl 1 rfl ?_)
          clear h a w; intro a w h
          refine wnil ?_
          refine b_normal ?_
          exact ⟨(v28, _), ⟨(h.keep [13]).1, (((h.2.rid 0).rid 1).rid 1)⟩, by simp only [List.length_set]; omega⟩
        ·
         refine c_seq (c_region ?_)
         refine wv h (r_bin h rfl rfl (B.eql_u8 (y := 3))) rfl ?_
         clear h a w; intro a w h
         refine wv h (r_assign h rfl) rfl ?_
         clear h a w; intro a w h
         refine wnil (c_then ?_)
         first
          | refine c_condD h rfl (fun ht7 => ?_) (fun ht7 => ?_)
          | refine c_condP h rfl (by first | (simp only [Bool.and_eq_true, Bool.or_eq_true, Bool.not_eq_true', decide_eq_true_eq, decide_eq_false_iff_not, ne_eq, Bool.not_eq_eq_eq_not, Bool.not_true, beq_iff_eq, bne_iff_ne]; exact Iff.rfl) | exact Iff.rfl) (fun ht7 => ?_) (fun ht7 => ?_)
         ·
          as_aux_lemma =>
           refine c_region ?_
           refine wv h (r_move h rfl) rfl ?_
           clear h a w; intro a w h
           refine wv h (r_move h rfl) rfl ?_
           clear h a w; intro a w h
           refine wv h (r_fieldAddr h 1 rfl K.u_api_Val rfl K.sz_string rfl rfl) rfl ?_
           clear h a w; intro a w h
           first
                      | (refine wv h (r_ldN h rfl K.u_string rfl 0 rfl rfl) rfl ?_)
                      | (refine wv h (r_ldN h rfl K.u_string rfl 1 rfl rfl) rfl ?_)
                      | (refine wv h (r_ldN h rfl K.u_string rfl 2 rfl rfl) rfl ?_)
                      | (refine wv h (r_ldN h rfl K.u_string rfl 3 rfl rfl) rfl ?_)
                      | (refine wv h (r_ldN h rfl K.u_string rfl 4 rfl rfl) rfl ?_)
                      | (refine wv h (r_ldN h rfl K.u_string rfl 5 rfl rfl) rfl ?_)
                      | (refine wv h (r_ldN h rfl K.u_string rfl 6 rfl rfl) rfl ?_)
                      | (refine wv h (r_ldC (o := 1) h rfl K.u_string rfl 0 rfl) rfl ?_)
                      | (refine wv h (r_ldC (o := 1) h rfl K.u_string rfl 1 rfl) rfl ?_)
                      | (refine wv h (r_ldC (o := 1) h rfl K.u_string rfl 2 rfl) rfl ?_)
                      | (refine wv h (r_ldC (o := 1) h rfl K.u_string rfl 3 rfl) rfl ?_)
                      | (refine wv h (r_ldC (o := 1) h rfl K.u_string rfl 4 rfl) rfl ?_)
                      | (refine wv h (r_ldC (o := 1) h rfl K.u_string rfl 5 rfl) rfl ?_)
                      | (refine wv h (r_ldC (o := 1) h rfl K.u_string rfl 6 rfl) rfl ?_)
                      | (refine wv h (r_load h rfl K.u_string rfl 0 rfl rfl) rfl ?_)
                      | (refine wv h (r_load h rfl K.u_string rfl 1 rfl rfl) rfl ?_)
                      | (refine wv h (r_load h rfl K.u_string rfl 2 rfl rfl) rfl ?_)
                      | (refine wv h (r_load h rfl K.u_string rfl 3 rfl rfl) rfl ?_)
                      | (refine wv h (r_load h rfl K.u_string rfl 4 rfl rfl) rfl ?_)
                      | (refine wv h (r_load h rfl K.u_string rfl 5 rfl rfl) rfl ?_)
                      | (refine wv h (r_load1 h rfl K.u_string rfl (by assumption)) rfl ?_)
           clear h a w; intro a w h
           refine wv h (r_elP h rfl rfl K.u_api_Chart K.sz_api_Elem (by first | exact Views.own 0 rfl | exact Views.own 1 rfl | exact Views.own 2 rfl | exact Views.own 3 rfl | exact Views.own 4 rfl | exact Views.own 5 rfl | assumption | exact Views.of_drop 1 (by assumption) | exact Views.of_drop 2 (by assumption) | exact Views.of_drop 3 (by assumption) | exact Views.of_drop 4 (by assumption) | exact Views.of_drop 5 (by assumption) | exact Views.of_drop 6 (by assumption) | exact Views.of_drop 7 (by assumption) | exact Views.of_drop 8 (by assumption) | exact Views.of_drop 9 (by assumption) | exact Views.of_drop 10 (by assumption) | exact Views.of_drop 11 (by assumption) | exact Views.of_drop 12 (by assumption)) (by first | omega | (simp; done)) (by first | omega | (simp only [List.length_cons, List.length_nil]; omega) | (simp; done) | (simp; omega))) rfl ?_
           clear h a w; intro a w h
           refine wv h (r_elF h 4 rfl K.u_api_Elem rfl K.sz_string rfl rfl (by first | exact Views.own 0 rfl | exact Views.own 1 rfl | exact Views.own 2 rfl | exact Views.own 3 rfl | exact Views.own 4 rfl | exact Views.own 5 rfl | assumption | exact Views.of_drop 1 (by assumption) | exact Views.of_drop 2 (by assumption) | exact Views.of_drop 3 (by assumption) | exact Views.of_drop 4 (by assumption) | exact Views.of_drop 5 (by assumption) | exact Views.of_drop 6 (by assumption) | exact Views.of_drop 7 (by assumption) | exact Views.of_drop 8 (by assumption) | exact Views.of_drop 9 (by assumption) | exact Views.of_drop 10 (by assumption) | exact Views.of_drop 11 (by assumption) | exact Views.of_drop 12 (by assumption)) (by first | omega | (simp only [List.length_cons, List.length_nil]; omega) | (simp; done) | (simp; omega))) rfl ?_
           clear h a w; intro a w h
           refine wl rfl (op_storeRf (cells := cellsE) (l := c) h { e with name := vs } rfl rfl K.sz_string rfl hee (by decide) rfl 1 rfl ?_)
           clear h a w; intro a w h
           refine wnil ?_
           refine b_normal ?_
           exact ⟨(v28, _), ⟨(h.keep [13]).1, (((h.2.rid 0).rid 1).rid 1)⟩, by simp only [List.length_set]; omega⟩
         ·
          refine c_seq (c_region ?_)
          refine wv h (r_bin h rfl rfl (B.eql_u8 (y := 4))) rfl ?_
          clear h a w; intro a w h
          refine wv h (r_assign h rfl) rfl ?_
          clear h a w; intro a w h
          refine wnil (c_then ?_)
          first
           | refine c_condD h rfl (fun ht8 => ?_) (fun ht8 => ?_)
           | refine c_condP h rfl (by first | (simp only [Bool.and_eq_true, Bool.or_eq_true, Bool.not_eq_true', decide_eq_true_eq, decide_eq_false_iff_not, ne_eq, Bool.not_eq_eq_eq_not, Bool.not_true, beq_iff_eq, bne_iff_ne]; exact Iff.rfl) | exact Iff.rfl) (fun ht8 => ?_) (fun ht8 => ?_)
          ·
           as_aux_lemma =>
            refine c_region ?_
            refine wv h (r_move h rfl) rfl ?_
            clear h a w; intro a w h
            refine wv h (r_move h rfl) rfl ?_
            clear h a w; intro a w h
            refine wv h (r_fieldAddr0 h rfl K.u_api_Val rfl K.sz_int rfl rfl) rfl ?_
            clear h a w; intro a w h
            first
                        | (refine wv h (r_ldN h rfl K.u_int rfl 0 rfl rfl) rfl ?_)
                        | (refine wv h (r_ldN h rfl K.u_int rfl 1 rfl rfl) rfl ?_)
                        | (refine wv h (r_ldN h rfl K.u_int rfl 2 rfl rfl) rfl ?_)
                        | (refine wv h (r_ldN h rfl K.u_int rfl 3 rfl rfl) rfl ?_)
                        | (refine wv h (r_ldN h rfl K.u_int rfl 4 rfl rfl) rfl ?_)
                        | (refine wv h (r_ldN h rfl K.u_int rfl 5 rfl rfl) rfl ?_)
                        | (refine wv h (r_ldN h rfl K.u_int rfl 6 rfl rfl) rfl ?_)
                        | (refine wv h (r_ldC (o := 0) h rfl K.u_int rfl 0 rfl) rfl ?_)
                        | (refine wv h (r_ldC (o := 0) h rfl K.u_int rfl 1 rfl) rfl ?_)
                        | (refine wv h (r_ldC (o := 0) h rfl K.u_int rfl 2 rfl) rfl ?_)
                        | (refine wv h (r_ldC (o := 0) h rfl K.u_int rfl 3 rfl) rfl ?_)
                        | (refine wv h (r_ldC (o := 0) h rfl K.u_int rfl 4 rfl) rfl ?_)
                        | (refine wv h (r_ldC (o := 0) h rfl K.u_int rfl 5 rfl) rfl ?_)
                        | (refine wv h (r_ldC (o := 0) h rfl K.u_int rfl 6 rfl) rfl ?_)
                        | (refine wv h (r_load h rfl K.u_int rfl 0 rfl rfl) rfl ?_)
                        | (refine wv h (r_load h rfl K.u_int rfl 1 rfl rfl) rfl ?_)
                        | (refine wv h (r_load h rfl K.u_int rfl 2 rfl rfl) rfl ?_)
                        | (refine wv h (r_load h rfl K.u_int rfl 3 rfl rfl) rfl ?_)
                        | (refine wv h (r_load h rfl K.u_int rfl 4 rfl rfl) rfl ?_)
                        | (refine wv h (r_load h rfl K.u_int rfl 5 rfl rfl) rfl ?_)
                        | (refine wv h (r_load1 h rfl K.u_int rfl (by assumption)) rfl ?_)
            clear h a w; intro a w h
            refine wv h (r_elP h rfl rfl K.u_api_Chart K.sz_api_Elem (by first | exact Views.own 0 rfl | exact Views.own 1 rfl | exact Views.own 2 rfl | exact Views.own 3 rfl | exact Views.own 4 rfl | exact Views.own 5 rfl | assumption | exact Views.of_drop 1 (by assumption) | exact Views.of_drop 2 (by assumption) | exact Views.of_drop 3 (by assumption) | exact Views.of_drop 4 (by assumption) | exact Views.of_drop 5 (by assumption) | exact Views.of_drop 6 (by assumption) | exact Views.of_drop 7 (by assumption) | exact Views.of_drop 8 (by assumption) | exact Views.of_drop 9 (by assumption) | exact Views.of_drop 10 (by assumption) | exact Views.of_drop 11 (by assumption) | exact Views.of_drop 12 (by assumption)) (by first | omega | (simp; done)) (by first | omega | (simp only [List.length_cons, List.length_nil]; omega) | (simp; done) | (simp; omega))) rfl ?_
            clear h a w; intro a w h
            refine wv h (r_elF h 5 rfl K.u_api_Elem rfl K.sz_int rfl rfl (by first | exact Views.own 0 rfl | exact Views.own 1 rfl | exact Views.own 2 rfl | exact Views.own 3 rfl | exact Views.own 4 rfl | exact Views.own 5 rfl | assumption | exact Views.of_drop 1 (by assumption) | exact Views.of_drop 2 (by assumption) | exact Views.of_drop 3 (by assumption) | exact Views.of_drop 4 (by assumption) | exact Views.of_drop 5 (by assumption) | exact Views.of_drop 6 (by assumption) | exact Views.of_drop 7 (by assumption) | exact Views.of_drop 8 (by assumption) | exact Views.of_drop 9 (by assumption) | exact Views.of_drop 10 (by assumption) | exact Views.of_drop 11 (by assumption) | exact Views.of_drop 12 (by assumption)) (by first | omega | (simp only [List.length_cons, List.length_nil]; omega) | (simp; done) | (simp; omega))) rfl ?_
            clear h a w; intro a w h
            refine wl rfl (op_storeRf (cells := cellsE) (l := c) h { e with src := vn } rfl rfl K.sz_int rfl hee (by decide) rfl 1 rfl ?_)
            clear h a w; intro a w h
            refine wnil ?_
            refine b_normal ?_
            exact ⟨(v28, _), ⟨(h.keep [13]).1, (((h.2.rid 0).rid 1).rid 1)⟩, by simp only [List.length_set]; omega⟩
          ·
           refine c_seq (c_region ?_)
           refine wv h (r_bin h rfl rfl (B.eql_u8 (y := 5))) rfl ?_
           clear h a w; intro a w h
           refine wv h (r_assign h rfl) rfl ?_
           clear h a w; intro a w h
           refine wnil (c_then ?_)
           first
            | refine c_condD h rfl (fun ht9 => ?_) (fun ht9 => ?_)
            | refine c_condP h rfl (by first | (simp only [Bool.and_eq_true, Bool.or_eq_true, Bool.not_eq_true', decide_eq_true_eq, decide_eq_false_iff_not, ne_eq, Bool.not_eq_eq_eq_not, Bool.not_true, beq_iff_eq, bne_iff_ne]; exact Iff.rfl) | exact Iff.rfl) (fun ht9 => ?_) (fun ht9 => ?_)
           ·
            as_aux_lemma =>
             refine c_region ?_
             refine wv h (r_move h rfl) rfl ?_
             clear h a w; intro a w h
             refine wv h (r_move h rfl) rfl ?_
             clear h a w; intro a w h
             refine wv h (r_fieldAddr0 h rfl K.u_api_Val rfl K.sz_int rfl rfl) rfl ?_
             clear h a w; intro a w h
             first
                          | (refine wv h (r_ldN h rfl K.u_int rfl 0 rfl rfl) rfl ?_)
                          | (refine wv h (r_ldN h rfl K.u_int rfl 1 rfl rfl) rfl ?_)
                          | (refine wv h (r_ldN h rfl K.u_int rfl 2 rfl rfl) rfl ?_)
                          | (refine wv h (r_ldN h rfl K.u_int rfl 3 rfl rfl) rfl ?_)
                          | (refine wv h (r_ldN h rfl K.u_int rfl 4 rfl rfl) rfl ?_)
                          | (refine wv h (r_ldN h rfl K.u_int rfl 5 rfl rfl) rfl ?_)
                          | (refine wv h (r_ldN h rfl K.u_int rfl 6 rfl rfl) rfl ?_)
                          | (refine wv h (r_ldC (o := 0) h rfl K.u_int rfl 0 rfl) rfl ?_)
                          | (refine wv h (r_ldC (o := 0) h rfl K.u_int rfl 1 rfl) rfl ?_)
                          | (refine wv h (r_ldC (o := 0) h rfl K.u_int rfl 2 rfl) rfl ?_)
                          | (refine wv h (r_ldC (o := 0) h rfl K.u_int rfl 3 rfl) rfl ?_)
                          | (refine wv h (r_ldC (o := 0) h rfl K.u_int rfl 4 rfl) rfl ?_)
                          | (refine wv h (r_ldC (o := 0) h rfl K.u_int rfl 5 rfl) rfl ?_)
                          | (refine wv h (r_ldC (o := 0) h rfl K.u_int rfl 6 rfl) rfl ?_)
                          | (refine wv h (r_load h rfl K.u_int rfl 0 rfl rfl) rfl ?_)
                          | (refine wv h (r_load h rfl K.u_int rfl 1 rfl rfl) rfl ?_)
                          | (refine wv h (r_load h rfl K.u_int rfl 2 rfl rfl) rfl ?_)
                          | (refine wv h (r_load h rfl K.u_int rfl 3 rfl rfl) rfl ?_)
                          | (refine wv h (r_load h rfl K.u_int rfl 4 rfl rfl) rfl ?_)
                          | (refine wv h (r_load h rfl K.u_int rfl 5 rfl rfl) rfl ?_)
                          | (refine wv h (r_load1 h rfl K.u_int rfl (by assumption)) rfl ?_)
             clear h a w; intro a w h
             refine wv h (r_elP h rfl rfl K.u_api_Chart K.sz_api_Elem (by first | exact Views.own 0 rfl | exact Views.own 1 rfl | exact Views.own 2 rfl | exact Views.own 3 rfl | exact Views.own 4 rfl | exact Views.own 5 rfl | assumption | exact Views.of_drop 1 (by assumption) | exact Views.of_drop 2 (by assumption) | exact Views.of_drop 3 (by assumption) | exact Views.of_drop 4 (by assumption) | exact Views.of_drop 5 (by assumption) | exact Views.of_drop 6 (by assumption) | exact Views.of_drop 7 (by assumption) | exact Views.of_drop 8 (by assumption) | exact Views.of_drop 9 (by assumption) | exact Views.of_drop 10 (by assumption) | exact Views.of_drop 11 (by assumption) | exact Views.of_drop 12 (by assumption)) (by first | omega | (simp; done)) (by first | omega | (simp only [List.length_cons, List.length_nil]; omega) | (simp; done) | (simp; omega))) rfl ?_
             clear h a w; intro a w h
             refine wv h (r_elF h 6 rfl K.u_api_Elem rfl K.sz_int rfl rfl (by first | exact Views.own 0 rfl | exact Views.own 1 rfl | exact Views.own 2 rfl | exact Views.own 3 rfl | exact Views.own 4 rfl | exact Views.own 5 rfl | assumption | exact Views.of_drop 1 (by assumption) | exact Views.of_drop 2 (by assumption) | exact Views.of_drop 3 (by assumption) | exact Views.of_drop 4 (by assumption) | exact Views.of_drop 5 (by assumption) | exact Views.of_drop 6 (by assumption) | exact Views.of_drop 7 (by assumption) | exact Views.of_drop 8 (by assumption) | exact Views.of_drop 9 (by assumption) | exact Views.of_drop 10 (by assumption) | exact Views.of_drop 11 (by assumption) | exact Views.of_drop 12 (by assumption)) (by first | omega | (simp only [List.length_cons, List.length_nil]; omega) | (simp; done) | (simp; omega))) rfl ?_
             clear h a w; intro a w h
             refine wl rfl (op_storeRf (cells := cellsE) (l := c) h { e with dst := vn } rfl rfl K.sz_int rfl hee (by decide) rfl 1 rfl ?_)
             clear h a w; intro a w h
             refine wnil ?_
             refine b_normal ?_
             exact ⟨(v28, _), ⟨(h.keep [13]).1, (((h.2.rid 0).rid 1).rid 1)⟩, by simp only [List.length_set]; omega⟩
           ·
            refine c_seq (c_region ?_)
            refine wv h (r_bin h rfl rfl (B.eql_u8 (y := 6))) rfl ?_
            clear h a w; intro a w h
            refine wv h (r_assign h rfl) rfl ?_
            clear h a w; intro a w h
            refine wnil (c_then ?_)
            first
             | refine c_condD h rfl (fun ht10 => ?_) (fun ht10 => ?_)
             | refine c_condP h rfl (by first | (simp only [Bool.and_eq_true, Bool.or_eq_true, Bool.not_eq_true', decide_eq_true_eq, decide_eq_false_iff_not, ne_eq, Bool.not_eq_eq_eq_not, Bool.not_true, beq_iff_eq, bne_iff_ne]; exact Iff.rfl) | exact Iff.rfl) (fun ht10 => ?_) (fun ht10 => ?_)
            ·
             as_aux_lemma =>
              refine c_region ?_
              refine wv h (r_move h rfl) rfl ?_
              clear h a w; intro a w h
              refine wv h (r_move h rfl) rfl ?_
              clear h a w; intro a w h
              refine wv h (r_fieldAddr h 1 rfl K.u_api_Val rfl K.sz_string rfl rfl) rfl ?_
              clear h a w; intro a w h
              first
                            | (refine wv h (r_ldN h rfl K.u_string rfl 0 rfl rfl) rfl ?_)
                            | (refine wv h (r_ldN h rfl K.u_string rfl 1 rfl rfl) rfl ?_)
                            | (refine wv h (r_ldN h rfl K.u_string rfl 2 rfl rfl) rfl ?_)
                            | (refine wv h (r_ldN h rfl K.u_string rfl 3 rfl rfl) rfl ?_)
                            | (refine wv h (r_ldN h rfl K.u_string rfl 4 rfl rfl) rfl ?_)
                            | (refine wv h (r_ldN h rfl K.u_string rfl 5 rfl rfl) rfl ?_)
                            | (refine wv h (r_ldN h rfl K.u_string rfl 6 rfl rfl) rfl ?_)
                            | (refine wv h (r_ldC (o := 1) h rfl K.u_string rfl 0 rfl) rfl ?_)
                            | (refine wv h (r_ldC (o := 1) h rfl K.u_string rfl 1 rfl) rfl ?_)
                            | (refine wv h (r_ldC (o := 1) h rfl K.u_string rfl 2 rfl) rfl ?_)
                            | (refine wv h (r_ldC (o := 1) h rfl K.u_string rfl 3 rfl) rfl ?_)
                            | (refine wv h (r_ldC (o := 1) h rfl K.u_string rfl 4 rfl) rfl ?_)
                            | (refine wv h (r_ldC (o := 1) h rfl K.u_string rfl 5 rfl) rfl ?_)
                            | (refine wv h (r_ldC (o := 1) h rfl K.u_string rfl 6 rfl) rfl ?_)
                            | (refine wv h (r_load h rfl K.u_string rfl 0 rfl rfl) rfl ?_)
                            | (refine wv h (r_load h rfl K.u_string rfl 1 rfl rfl) rfl ?_)
                            | (refine wv h (r_load h rfl K.u_string rfl 2 rfl rfl) rfl ?_)
                            | (refine wv h (r_load h rfl K.u_string rfl 3 rfl rfl) rfl ?_)
                            | (refine wv h (r_load h rfl K.u_string rfl 4 rfl rfl) rfl ?_)
                            | (refine wv h (r_load h rfl K.u_string rfl 5 rfl rfl) rfl ?_)
                            | (refine wv h (r_load1 h rfl K.u_string rfl (by assumption)) rfl ?_)
              clear h a w; intro a w h
              refine wv h (r_elP h rfl rfl K.u_api_Chart K.sz_api_Elem (by first | exact Views.own 0 rfl | exact Views.own 1 rfl | exact Views.own 2 rfl | exact Views.own 3 rfl | exact Views.own 4 rfl | exact Views.own 5 rfl | assumption | exact Views.of_drop 1 (by assumption) | exact Views.of_drop 2 (by assumption) | exact Views.of_drop 3 (by assumption) | exact Views.of_drop 4 (by assumption) | exact Views.of_drop 5 (by assumption) | exact Views.of_drop 6 (by assumption) | exact Views.of_drop 7 (by assumption) | exact Views.of_drop 8 (by assumption) | exact Views.of_drop 9 (by assumption) | exact Views.of_drop 10 (by assumption) | exact Views.of_drop 11 (by assumption) | exact Views.of_drop 12 (by assumption)) (by first | omega | (simp; done)) (by first | omega | (simp only [List.length_cons, List.length_nil]; omega) | (simp; done) | (simp; omega))) rfl ?_
              clear h a w; intro a w h
              refine wv h (r_elF h 7 rfl K.u_api_Elem rfl K.sz_string rfl rfl (by first | exact Views.own 0 rfl | exact Views.own 1 rfl | exact Views.own 2 rfl | exact Views.own 3 rfl | exact Views.own 4 rfl | exact Views.own 5 rfl | assumption | exact Views.of_drop 1 (by assumption) | exact Views.of_drop 2 (by assumption) | exact Views.of_drop 3 (by assumption) | exact Views.of_drop 4 (by assumption) | exact Views.of_drop 5 (by assumption) | exact Views.of_drop 6 (by assumption) | exact Views.of_drop 7 (by assumption) | exact Views.of_drop 8 (by assumption) | exact Views.of_drop 9 (by assumption) | exact Views.of_drop 10 (by assumption) | exact Views.of_drop 11 (by assumption) | exact Views.of_drop 12 (by assumption)) (by first | omega | (simp only [List.length_cons, List.length_nil]; omega) | (simp; done) | (simp; omega))) rfl ?_
              clear h a w; intro a w h
              refine wl rfl (op_storeRf (cells := cellsE) (l := c) h { e with event := vs } rfl rfl K.sz_string rfl hee (by decide) rfl 1 rfl ?_)
              clear h a w; intro a w h
              refine wnil ?_
              refine b_normal ?_
              exact ⟨(v28, _), ⟨(h.keep [13]).1, (((h.2.rid 0).rid 1).rid 1)⟩, by simp only [List.length_set]; omega⟩
            ·
             refine c_seq (c_region ?_)
             refine wv h (r_bin h rfl rfl (B.eql_u8 (y := 7))) rfl ?_
             clear h a w; intro a w h
             refine wv h (r_assign h rfl) rfl ?_
             clear h a w; intro a w h
             refine wnil (c_then ?_)
             first
              | refine c_condD h rfl (fun ht11 => ?_) (fun ht11 => ?_)
              | refine c_condP h rfl (by first | (simp only [Bool.and_eq_true, Bool.or_eq_true, Bool.not_eq_true', decide_eq_true_eq, decide_eq_false_iff_not, ne_eq, Bool.not_eq_eq_eq_not, Bool.not_true, beq_iff_eq, bne_iff_ne]; exact Iff.rfl) | exact Iff.rfl) (fun ht11 => ?_) (fun ht11 => ?_)
             ·
              as_aux_lemma =>
               refine c_region ?_
               refine wv h (r_move h rfl) rfl ?_
               clear h a w; intro a w h
               refine wv h (r_move h rfl) rfl ?_
               clear h a w; intro a w h
               refine wv h (r_move h rfl) rfl ?_
               clear h a w; intro a w h
               refine wv h (r_elP h rfl rfl K.u_api_Chart K.sz_api_Elem (by first | exact Views.own 0 rfl | exact Views.own 1 rfl | exact Views.own 2 rfl | exact Views.own 3 rfl | exact Views.own 4 rfl | exact Views.own 5 rfl | assumption | exact Views.of_drop 1 (by assumption) | exact Views.of_drop 2 (by assumption) | exact Views.of_drop 3 (by assumption) | exact Views.of_drop 4 (by assumption) | exact Views.of_drop 5 (by assumption) | exact Views.of_drop 6 (by assumption) | exact Views.of_drop 7 (by assumption) | exact Views.of_drop 8 (by assumption) | exact Views.of_drop 9 (by assumption) | exact Views.of_drop 10 (by assumption) | exact Views.of_drop 11 (by assumption) | exact Views.of_drop 12 (by assumption)) (by first | omega | (simp; done)) (by first | omega | (simp only [List.length_cons, List.length_nil]; omega) | (simp; done) | (simp; omega))) rfl ?_
               clear h a w; intro a w h
               refine wv h (r_elF h 0 rfl K.u_api_Elem rfl K.sz_int rfl rfl (by first | exact Views.own 0 rfl | exact Views.own 1 rfl | exact Views.own 2 rfl | exact Views.own 3 rfl | exact Views.own 4 rfl | exact Views.own 5 rfl | assumption | exact Views.of_drop 1 (by assumption) | exact Views.of_drop 2 (by assumption) | exact Views.of_drop 3 (by assumption) | exact Views.of_drop 4 (by assumption) | exact Views.of_drop 5 (by assumption) | exact Views.of_drop 6 (by assumption) | exact Views.of_drop 7 (by assumption) | exact Views.of_drop 8 (by assumption) | exact Views.of_drop 9 (by assumption) | exact Views.of_drop 10 (by assumption) | exact Views.of_drop 11 (by assumption) | exact Views.of_drop 12 (by assumption)) (by first | omega | (simp only [List.length_cons, List.length_nil]; omega) | (simp; done) | (simp; omega))) rfl ?_
               clear h a w; intro a w h
               refine wv h (r_elMf h rfl K.u_int rfl (by first | exact Views.own 0 rfl | exact Views.own 1 rfl | exact Views.own 2 rfl | exact Views.own 3 rfl | exact Views.own 4 rfl | exact Views.own 5 rfl | assumption | exact Views.of_drop 1 (by assumption) | exact Views.of_drop 2 (by assumption) | exact Views.of_drop 3 (by assumption) | exact Views.of_drop 4 (by assumption) | exact Views.of_drop 5 (by assumption) | exact Views.of_drop 6 (by assumption) | exact Views.of_drop 7 (by assumption) | exact Views.of_drop 8 (by assumption) | exact Views.of_drop 9 (by assumption) | exact Views.of_drop 10 (by assumption) | exact Views.of_drop 11 (by assumption) | exact Views.of_drop 12 (by assumption)) (by assumption) rfl) rfl ?_
               clear h a w; intro a w h
               refine wl rfl (op_call h rfl K.go_ref09_Drop (ref09_Drop s _ v28 c e.id _ (Views.own 1 rfl) (by omega) h.2) rfl ?_)
               clear h a w; intro x133 a w hx133 h
               (try simp only [List.set_cons_zero, List.set_cons_succ] at h)
               refine wv h (r_assign h rfl) rfl ?_
               clear h a w; intro a w h
               refine wnil ?_
               refine b_normal ?_
               exact ⟨(x133.1, x133.2), ⟨(h.keep [13]).1, (((h.2.rid 1).rid 1).rid 1).rid 1⟩, by have : x133.2.length ≤ c.length := hx133; show x133.2.length ≤ 1000; omega⟩
             ·
              refine c_seq (c_region ?_)
              refine wv h (r_move h rfl) rfl ?_
              clear h a w; intro a w h
              refine wv h (r_move h rfl) rfl ?_
              clear h a w; intro a w h
              refine wv h (r_move h rfl) rfl ?_
              clear h a w; intro a w h
              refine wv h (r_elP h rfl rfl K.u_api_Chart K.sz_api_Elem (by first | exact Views.own 0 rfl | exact Views.own 1 rfl | exact Views.own 2 rfl | exact Views.own 3 rfl | exact Views.own 4 rfl | exact Views.own 5 rfl | assumption | exact Views.of_drop 1 (by assumption) | exact Views.of_drop 2 (by assumption) | exact Views.of_drop 3 (by assumption) | exact Views.of_drop 4 (by assumption) | exact Views.of_drop 5 (by assumption) | exact Views.of_drop 6 (by assumption) | exact Views.of_drop 7 (by assumption) | exact Views.of_drop 8 (by assumption) | exact Views.of_drop 9 (by assumption) | exact Views.of_drop 10 (by assumption) | exact Views.of_drop 11 (by assumption) | exact Views.of_drop 12 (by assumption)) (by first | omega | (simp; done)) (by first | omega | (simp only [List.length_cons, List.length_nil]; omega) | (simp; done) | (simp; omega))) rfl ?_
              clear h a w; intro a w h
              refine wv h (r_elF h 4 rfl K.u_api_Elem rfl K.sz_string rfl rfl (by first | exact Views.own 0 rfl | exact Views.own 1 rfl | exact Views.own 2 rfl | exact Views.own 3 rfl | exact Views.own 4 rfl | exact Views.own 5 rfl | assumption | exact Views.of_drop 1 (by assumption) | exact Views.of_drop 2 (by assumption) | exact Views.of_drop 3 (by assumption) | exact Views.of_drop 4 (by assumption) | exact Views.of_drop 5 (by assumption) | exact Views.of_drop 6 (by assumption) | exact Views.of_drop 7 (by assumption) | exact Views.of_drop 8 (by assumption) | exact Views.of_drop 9 (by assumption) | exact Views.of_drop 10 (by assumption) | exact Views.of_drop 11 (by assumption) | exact Views.of_drop 12 (by assumption)) (by first | omega | (simp only [List.length_cons, List.length_nil]; omega) | (simp; done) | (simp; omega))) rfl ?_
              clear h a w; intro a w h
              refine wv h (r_elMf h rfl K.u_string rfl (by first | exact Views.own 0 rfl | exact Views.own 1 rfl | exact Views.own 2 rfl | exact Views.own 3 rfl | exact Views.own 4 rfl | exact Views.own 5 rfl | assumption | exact Views.of_drop 1 (by assumption) | exact Views.of_drop 2 (by assumption) | exact Views.of_drop 3 (by assumption) | exact Views.of_drop 4 (by assumption) | exact Views.of_drop 5 (by assumption) | exact Views.of_drop 6 (by assumption) | exact Views.of_drop 7 (by assumption) | exact Views.of_drop 8 (by assumption) | exact Views.of_drop 9 (by assumption) | exact Views.of_drop 10 (by assumption) | exact Views.of_drop 11 (by assumption) | exact Views.of_drop 12 (by assumption)) (by assumption) rfl) rfl ?_
              clear h a w; intro a w h
              refine wv h (r_elP h rfl rfl K.u_api_Chart K.sz_api_Elem (by first | exact Views.own 0 rfl | exact Views.own 1 rfl | exact Views.own 2 rfl | exact Views.own 3 rfl | exact Views.own 4 rfl | exact Views.own 5 rfl | assumption | exact Views.of_drop 1 (by assumption) | exact Views.of_drop 2 (by assumption) | exact Views.of_drop 3 (by assumption) | exact Views.of_drop 4 (by assumption) | exact Views.of_drop 5 (by assumption) | exact Views.of_drop 6 (by assumption) | exact Views.of_drop 7 (by assumption) | exact Views.of_drop 8 (by assumption) | exact Views.of_drop 9 (by assumption) | exact Views.of_drop 10 (by assumption) | exact Views.of_drop 11 (by assumption) | exact Views.of_drop 12 (by assumption)) (by first | omega | (simp; done)) (by first | omega | (simp only [List.length_cons, List.length_nil]; omega) | (simp; done) | (simp; omega))) rfl ?_
              clear h a w; intro a w h
              refine wv h (r_elF h 4 rfl K.u_api_Elem rfl K.sz_string rfl rfl (by first | exact Views.own 0 rfl | exact Views.own 1 rfl | exact Views.own 2 rfl | exact Views.own 3 rfl | exact Views.own 4 rfl | exact Views.own 5 rfl | assumption | exact Views.of_drop 1 (by assumption) | exact Views.of_drop 2 (by assumption) | exact Views.of_drop 3 (by assumption) | exact Views.of_drop 4 (by assumption) | exact Views.of_drop 5 (by assumption) | exact Views.of_drop 6 (by assumption) | exact Views.of_drop 7 (by assumption) | exact Views.of_drop 8 (by assumption) | exact Views.of_drop 9 (by assumption) | exact Views.of_drop 10 (by assumption) | exact Views.of_drop 11 (by assumption) | exact Views.of_drop 12 (by assumption)) (by first | omega | (simp only [List.length_cons, List.length_nil]; omega) | (simp; done) | (simp; omega))) rfl ?_
              clear h a w; intro a w h
              refine wl rfl (op_storeRf (cells := cellsE) (l := c) h { e with name := e0.name } rfl rfl K.sz_string rfl hee (by decide) rfl 1 rfl ?_)
              clear h a w; intro a w h
              obtain ⟨c2, hc2⟩ : ∃ c2, c2 = c.set j { e with name := e0.name } := ⟨_, rfl⟩
              have hc2l : c2.length = c.length := by rw [hc2]; simp
              obtain ⟨e2, hee2⟩ := get_some (l := c2) (i := j) (by omega)
              obtain ⟨e02, hee02⟩ := get_some (l := c2) (i := 0) (by omega)
              rw [← hc2] at h
              refine wnil (c_then ?_)
              refine c_region ?_
              refine wv h (r_move h rfl) rfl ?_
              clear h a w; intro a w h
              refine wv h (r_move h rfl) rfl ?_
              clear h a w; intro a w h
              refine wv h (r_move h rfl) rfl ?_
              clear h a w; intro a w h
              refine wv h (r_elP h rfl rfl K.u_api_Chart K.sz_api_Elem (by first | exact Views.own 0 rfl | exact Views.own 1 rfl | exact Views.own 2 rfl | exact Views.own 3 rfl | exact Views.own 4 rfl | exact Views.own 5 rfl | assumption | exact Views.of_drop 1 (by assumption) | exact Views.of_drop 2 (by assumption) | exact Views.of_drop 3 (by assumption) | exact Views.of_drop 4 (by assumption) | exact Views.of_drop 5 (by assumption) | exact Views.of_drop 6 (by assumption) | exact Views.of_drop 7 (by assumption) | exact Views.of_drop 8 (by assumption) | exact Views.of_drop 9 (by assumption) | exact Views.of_drop 10 (by assumption) | exact Views.of_drop 11 (by assumption) | exact Views.of_drop 12 (by assumption)) (by first | omega | (simp; done)) (by first | omega | (simp only [List.length_cons, List.length_nil]; omega) | (simp; done) | (simp; omega))) rfl ?_
              clear h a w; intro a w h
              refine wv h (r_elF h 3 rfl K.u_api_Elem rfl K.sz_int rfl rfl (by first | exact Views.own 0 rfl | exact Views.own 1 rfl | exact Views.own 2 rfl | exact Views.own 3 rfl | exact Views.own 4 rfl | exact Views.own 5 rfl | assumption | exact Views.of_drop 1 (by assumption) | exact Views.of_drop 2 (by assumption) | exact Views.of_drop 3 (by assumption) | exact Views.of_drop 4 (by assumption) | exact Views.of_drop 5 (by assumption) | exact Views.of_drop 6 (by assumption) | exact Views.of_drop 7 (by assumption) | exact Views.of_drop 8 (by assumption) | exact Views.of_drop 9 (by assumption) | exact Views.of_drop 10 (by assumption) | exact Views.of_drop 11 (by assumption) | exact Views.of_drop 12 (by assumption)) (by first | omega | (simp only [List.length_cons, List.length_nil]; omega) | (simp; done) | (simp; omega))) rfl ?_
              clear h a w; intro a w h
              refine wv h (r_elMf h rfl K.u_int rfl (by first | exact Views.own 0 rfl | exact Views.own 1 rfl | exact Views.own 2 rfl | exact Views.own 3 rfl | exact Views.own 4 rfl | exact Views.own 5 rfl | assumption | exact Views.of_drop 1 (by assumption) | exact Views.of_drop 2 (by assumption) | exact Views.of_drop 3 (by assumption) | exact Views.of_drop 4 (by assumption) | exact Views.of_drop 5 (by assumption) | exact Views.of_drop 6 (by assumption) | exact Views.of_drop 7 (by assumption) | exact Views.of_drop 8 (by assumption) | exact Views.of_drop 9 (by assumption) | exact Views.of_drop 10 (by assumption) | exact Views.of_drop 11 (by assumption) | exact Views.of_drop 12 (by assumption)) (by assumption) rfl) rfl ?_
              clear h a w; intro a w h
              refine wv h (r_elP h rfl rfl K.u_api_Chart K.sz_api_Elem (by first | exact Views.own 0 rfl | exact Views.own 1 rfl | exact Views.own 2 rfl | exact Views.own 3 rfl | exact Views.own 4 rfl | exact Views.own 5 rfl | assumption | exact Views.of_drop 1 (by assumption) | exact Views.of_drop 2 (by assumption) | exact Views.of_drop 3 (by assumption) | exact Views.of_drop 4 (by assumption) | exact Views.of_drop 5 (by assumption) | exact Views.of_drop 6 (by assumption) | exact Views.of_drop 7 (by assumption) | exact Views.of_drop 8 (by assumption) | exact Views.of_drop 9 (by assumption) | exact Views.of_drop 10 (by assumption) | exact Views.of_drop 11 (by assumption) | exact Views.of_drop 12 (by assumption)) (by first | omega | (simp; done)) (by first | omega | (simp only [List.length_cons, List.length_nil]; omega) | (simp; done) | (simp; omega))) rfl ?_
              clear h a w; intro a w h
              refine wv h (r_elF h 3 rfl K.u_api_Elem rfl K.sz_int rfl rfl (by first | exact Views.own 0 rfl | exact Views.own 1 rfl | exact Views.own 2 rfl | exact Views.own 3 rfl | exact Views.own 4 rfl | exact Views.own 5 rfl | assumption | exact Views.of_drop 1 (by assumption) | exact Views.of_drop 2 (by assumption) | exact Views.of_drop 3 (by assumption) | exact Views.of_drop 4 (by assumption) | exact Views.of_drop 5 (by assumption) | exact Views.of_drop 6 (by assumption) | exact Views.of_drop 7 (by assumption) | exact Views.of_drop 8 (by assumption) | exact Views.of_drop 9 (by assumption) | exact Views.of_drop 10 (by assumption) | exact Views.of_drop 11 (by assumption) | exact Views.of_drop 12 (by assumption)) (by first | omega | (simp only [List.length_cons, List.length_nil]; omega) | (simp; done) | (simp; omega))) rfl ?_
              clear h a w; intro a w h
              refine wl rfl (op_storeRf (cells := cellsE) (l := c2) h { e2 with order := e02.order } rfl rfl K.sz_int rfl hee2 (by decide) rfl 1 rfl ?_)
              clear h a w; intro a w h
              refine wnil ?_
              refine b_normal ?_
              exact ⟨(v28, _), ⟨(h.keep [13]).1, (((h.2.rid 0).rid 1).rid 1)⟩, by simp only [List.length_set]; omega⟩
    ·
     clear h a w; intro z a w hz h
     obtain ⟨dv, d⟩ := z
     dsimp only at hz h
     refine c_seq (c_region ?_)
     refine wv h (r_move h rfl) rfl ?_
     clear h a w; intro a w h
     refine wl rfl (op_call h rfl K.go_rules_Check (rules_Check s _ _ _ _ (by first | exact Views.own 0 rfl | exact Views.own 1 rfl | exact Views.own 2 rfl | exact Views.own 3 rfl | exact Views.own 4 rfl | exact Views.own 5 rfl | assumption | exact Views.of_drop 1 (by assumption) | exact Views.of_drop 2 (by assumption) | exact Views.of_drop 3 (by assumption) | exact Views.of_drop 4 (by assumption) | exact Views.of_drop 5 (by assumption) | exact Views.of_drop 6 (by assumption) | exact Views.of_drop 7 (by assumption) | exact Views.of_drop 8 (by assumption) | exact Views.of_drop 9 (by assumption) | exact Views.of_drop 10 (by assumption) | exact Views.of_drop 11 (by assumption) | exact Views.of_drop 12 (by assumption)) h.2) rfl ?_)
     clear h a w; intro x a w hx h
     (try simp only [List.set_cons_zero, List.set_cons_succ] at h)
     refine wl rfl (op_alloc h K.z_api_Fault rfl ?_)
     clear h a w; intro b16 a w h
     first
          | (refine wl rfl (op_stA h rfl rfl K.sz_api_Fault (by first | exact Row.len _ | rfl | assumption | (simp; done) | (simp; omega) | omega) (by first | exact Row.one _ | exact bs_one _ | assumption | (simp; done) | (simp; (repeat' apply And.intro) <;> first | rfl | assumption)) 0 rfl (by first | rfl | assumption | (simp; done) | (simp; omega) | omega) ?_))
          | (refine wl rfl (op_stA h rfl rfl K.sz_api_Fault (by first | exact Row.len _ | rfl | assumption | (simp; done) | (simp; omega) | omega) (by first | exact Row.one _ | exact bs_one _ | assumption | (simp; done) | (simp; (repeat' apply And.intro) <;> first | rfl | assumption)) 1 rfl (by first | rfl | assumption | (simp; done) | (simp; omega) | omega) ?_))
          | (refine wl rfl (op_stA h rfl rfl K.sz_api_Fault (by first | exact Row.len _ | rfl | assumption | (simp; done) | (simp; omega) | omega) (by first | exact Row.one _ | exact bs_one _ | assumption | (simp; done) | (simp; (repeat' apply And.intro) <;> first | rfl | assumption)) 2 rfl (by first | rfl | assumption | (simp; done) | (simp; omega) | omega) ?_))
          | (refine wl rfl (op_stA h rfl rfl K.sz_api_Fault (by first | exact Row.len _ | rfl | assumption | (simp; done) | (simp; omega) | omega) (by first | exact Row.one _ | exact bs_one _ | assumption | (simp; done) | (simp; (repeat' apply And.intro) <;> first | rfl | assumption)) 3 rfl (by first | rfl | assumption | (simp; done) | (simp; omega) | omega) ?_))
          | (refine wl rfl (op_stA h rfl rfl K.sz_api_Fault (by first | exact Row.len _ | rfl | assumption | (simp; done) | (simp; omega) | omega) (by first | exact Row.one _ | exact bs_one _ | assumption | (simp; done) | (simp; (repeat' apply And.intro) <;> first | rfl | assumption)) 4 rfl (by first | rfl | assumption | (simp; done) | (simp; omega) | omega) ?_))
          | (refine wl rfl (op_stA h rfl rfl K.sz_api_Fault (by first | exact Row.len _ | rfl | assumption | (simp; done) | (simp; omega) | omega) (by first | exact Row.one _ | exact bs_one _ | assumption | (simp; done) | (simp; (repeat' apply And.intro) <;> first | rfl | assumption)) 5 rfl (by first | rfl | assumption | (simp; done) | (simp; omega) | omega) ?_))
     clear h a w; intro a w h
     (try simp only [List.set_cons_zero, List.set_cons_succ] at h)
     refine wnil (c_then ?_)
     refine c_seq (c_region ?_)
     refine wv h (r_move h rfl) rfl ?_
     clear h a w; intro a w h
     refine wl rfl (op_call h rfl K.go_ref09_Check (ref09_Check s _ _ _ _ (by first | exact Views.own 0 rfl | exact Views.own 1 rfl | exact Views.own 2 rfl | exact Views.own 3 rfl | exact Views.own 4 rfl | exact Views.own 5 rfl | assumption | exact Views.of_drop 1 (by assumption) | exact Views.of_drop 2 (by assumption) | exact Views.of_drop 3 (by assumption) | exact Views.of_drop 4 (by assumption) | exact Views.of_drop 5 (by assumption) | exact Views.of_drop 6 (by assumption) | exact Views.of_drop 7 (by assumption) | exact Views.of_drop 8 (by assumption) | exact Views.of_drop 9 (by assumption) | exact Views.of_drop 10 (by assumption) | exact Views.of_drop 11 (by assumption) | exact Views.of_drop 12 (by assumption)) h.2) rfl ?_)
     clear h a w; intro x a w hx h
     (try simp only [List.set_cons_zero, List.set_cons_succ] at h)
     refine wv h (r_move h rfl) rfl ?_
     clear h a w; intro a w h
     refine wv h (r_extractN h rfl rfl) rfl ?_
     clear h a w; intro a w h
     refine wv h (r_extractN h rfl rfl) rfl ?_
     clear h a w; intro a w h
     refine wv h (r_assign h rfl) rfl ?_
     clear h a w; intro a w h
     refine wv h (r_assign h rfl) rfl ?_
     clear h a w; intro a w h
     refine wnil (c_then ?_)
     refine c_seq (c_region ?_)
     first
          | (refine wv h (r_ldA h rfl K.u_api_Fault rfl K.sz_api_Fault 0 rfl (by first | exact Row.len _ | rfl | assumption | (simp; done) | (simp; omega) | omega)) rfl ?_)
          | (refine wv h (r_ldA h rfl K.u_api_Fault rfl K.sz_api_Fault 1 rfl (by first | exact Row.len _ | rfl | assumption | (simp; done) | (simp; omega) | omega)) rfl ?_)
          | (refine wv h (r_ldA h rfl K.u_api_Fault rfl K.sz_api_Fault 2 rfl (by first | exact Row.len _ | rfl | assumption | (simp; done) | (simp; omega) | omega)) rfl ?_)
          | (refine wv h (r_ldA h rfl K.u_api_Fault rfl K.sz_api_Fault 3 rfl (by first | exact Row.len _ | rfl | assumption | (simp; done) | (simp; omega) | omega)) rfl ?_)
          | (refine wv h (r_ldA h rfl K.u_api_Fault rfl K.sz_api_Fault 4 rfl (by first | exact Row.len _ | rfl | assumption | (simp; done) | (simp; omega) | omega)) rfl ?_)
          | (refine wv h (r_ldA h rfl K.u_api_Fault rfl K.sz_api_Fault 5 rfl (by first | exact Row.len _ | rfl | assumption | (simp; done) | (simp; omega) | omega)) rfl ?_)
          | (refine wv h (r_loadCA h rfl K.u_api_Fault rfl K.sz_api_Fault (by assumption) (by first | rfl | assumption | (simp; done) | (simp; omega) | omega)) rfl ?_)
     clear h a w; intro a w h
     refine wv h (r_move h rfl) rfl ?_
     clear h a w; intro a w h
     refine wv h (r_move h rfl) rfl ?_
     clear h a w; intro a w h
     refine wv h (r_build (cells := ⟨[.int .i64 (checkR d).1, .int .i64 (checkR d).2]⟩) h K.u_api_Fault K.z_api_Fault K.pl_api_Fault rfl (by kernel_rfl)) rfl ?_
     clear h a w; intro a w h
     refine wv h (r_faulteq h rfl rfl) rfl ?_
     clear h a w; intro a w h
     refine wv h (r_assign h rfl) rfl ?_
     clear h a w; intro a w h
     refine wnil (c_then ?_)
     refine c_ret ?_
     exact ret1 h rfl rfl ⟨(), ret_true (by simp), (by first | exact h.2 | exact h.2.drop 1 | exact h.2.drop 2 | exact h.2.drop 3 | exact h.2.drop 4 | exact h.2.drop 5 | exact h.2.drop 6 | exact h.2.drop 7 | exact h.2.drop 8 | exact h.2.drop 9 | exact h.2.drop 10 | exact h.2.drop 11 | exact h.2.drop 12 | exact h.2.drop 13 | exact h.2.drop 14 | exact h.2.drop 15 | exact h.2.drop 16), trivial⟩
end Go.Proofs.K
