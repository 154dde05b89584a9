/- The laws of layer 17, walked: a commit's bounds. -/
import Derived.Test.YtfaegieaicigcaaDoorCommitc
import Derived.Test.YtfaegieaicigcaaDoorCommitBack
set_option linter.unusedVariables false
set_option linter.unusedSimpArgs false
set_option maxRecDepth 10000
set_option maxHeartbeats 2000000
namespace Go.Proofs.K
open Go.Sl
attribute [local irreducible] Go.Sl.Own Go.Sl.Blk Go.Sl.Sep Go.Sl.Ex Go.Sl.Fact

def firstC : Cm := ⟨BA.zero 32, [], [102, 105, 114, 115, 116]⟩
theorem first_right : rightC firstC = true := by decide +kernel

theorem law17_awake (s w : World) (F : List HItem) (hs : Sat s w F) : Calls P n_law17_awake #[] w (Ret s (fun _ : Unit => .bool true) (fun _ => F) (fun _ => True)) := by
  have hl := encC_len firstC first_right
  refine enter K.fn_law17_awake rfl K.nt_law17_awake rfl hs ?_
  clear hs w; intro a w h
  refine c_seq (c_region ?_)
  refine wv h (r_assign h rfl) rfl ?_
  clear h a w; intro a w h
  refine wnil (c_then ?_)
  refine c_seq (c_region ?_)
  refine wv h (r_build (cells := ⟨cmC firstC.chart (.slice none 0 0) (sv firstC.note)⟩) h K.u_api_Commit K.z_api_Commit K.pl_api_Commit rfl (by kernel_rfl)) rfl ?_
  clear h a w; intro a w h
  refine wl rfl (op_call h rfl K.go_commit_Encode (commit_Encode s _ firstC _ _ (Views.nil _ 32) h.2) rfl ?_)
  clear h a w; intro v7 a w hx h
  (try simp only [List.set_cons_zero, List.set_cons_succ] at h)
  rw [if_pos first_right, if_pos first_right] at h
  refine wv h (r_move h rfl) rfl ?_
  clear h a w; intro a w h
  refine wv h (r_extractN h rfl rfl) rfl ?_
  clear h a w; intro a w h
  refine wv h (r_extractN h rfl rfl) rfl ?_
  clear h a w; intro a w h
  refine wv h (r_assign h rfl) rfl ?_
  clear h a w; intro a w h
  refine wv h (r_assign h rfl) rfl ?_
  clear h a w; intro a w h
  refine wnil (c_then ?_)
  refine c_seq (c_region ?_)
  refine wv h (r_move h rfl) rfl ?_
  clear h a w; intro a w h
  refine wl rfl (op_call h rfl K.go_commit_Decode (commit_Decode s _ _ (encC firstC) _ (by omega) (by first | exact ViewsB.own 0 rfl | exact ViewsB.own 1 rfl | exact ViewsB.own 2 rfl | exact ViewsB.own 3 rfl | exact ViewsB.own 4 rfl | exact ViewsB.own 5 rfl | assumption | exact ViewsB.nil _ | exact ViewsB.arr 0 rfl (by first | assumption | rfl | (simp; done)) (Nat.le_refl _) (by simp [maxLen]) | exact ViewsB.arr 1 rfl (by first | assumption | rfl | (simp; done)) (Nat.le_refl _) (by simp [maxLen]) | exact ViewsB.arr 2 rfl (by first | assumption | rfl | (simp; done)) (Nat.le_refl _) (by simp [maxLen]) | exact ViewsB.arr 3 rfl (by first | assumption | rfl | (simp; done)) (Nat.le_refl _) (by simp [maxLen]) | exact ViewsB.arr 4 rfl (by first | assumption | rfl | (simp; done)) (Nat.le_refl _) (by simp [maxLen]) | exact ViewsB.of_drop 1 (by assumption) | exact ViewsB.of_drop 2 (by assumption) | exact ViewsB.of_drop 3 (by assumption) | exact ViewsB.of_drop 4 (by assumption) | exact ViewsB.of_drop 5 (by assumption) | exact ViewsB.of_drop 6 (by assumption) | exact ViewsB.of_drop 7 (by assumption) | exact ViewsB.of_drop 8 (by assumption) | exact ViewsB.of_drop 9 (by assumption) | exact ViewsB.of_drop 10 (by assumption) | exact ViewsB.of_drop 11 (by assumption) | exact ViewsB.of_drop 12 (by assumption) | exact ViewsB.sub (by first | exact ViewsB.own 0 rfl | exact ViewsB.own 1 rfl | exact ViewsB.own 2 rfl | exact ViewsB.own 3 rfl | exact ViewsB.own 4 rfl | exact ViewsB.own 5 rfl | assumption | exact ViewsB.nil _ | exact ViewsB.arr 0 rfl (by first | assumption | rfl | (simp; done)) (Nat.le_refl _) (by simp [maxLen]) | exact ViewsB.arr 1 rfl (by first | assumption | rfl | (simp; done)) (Nat.le_refl _) (by simp [maxLen]) | exact ViewsB.arr 2 rfl (by first | assumption | rfl | (simp; done)) (Nat.le_refl _) (by simp [maxLen]) | exact ViewsB.arr 3 rfl (by first | assumption | rfl | (simp; done)) (Nat.le_refl _) (by simp [maxLen]) | exact ViewsB.arr 4 rfl (by first | assumption | rfl | (simp; done)) (Nat.le_refl _) (by simp [maxLen]) | exact ViewsB.of_drop 1 (by assumption) | exact ViewsB.of_drop 2 (by assumption) | exact ViewsB.of_drop 3 (by assumption) | exact ViewsB.of_drop 4 (by assumption) | exact ViewsB.of_drop 5 (by assumption) | exact ViewsB.of_drop 6 (by assumption) | exact ViewsB.of_drop 7 (by assumption) | exact ViewsB.of_drop 8 (by assumption) | exact ViewsB.of_drop 9 (by assumption) | exact ViewsB.of_drop 10 (by assumption) | exact ViewsB.of_drop 11 (by assumption) | exact ViewsB.of_drop 12 (by assumption)) (by omega) (by first | omega | (simp; done) | (simp; omega))) h.2) rfl ?_)
  clear h a w; intro v12 a w hx h
  (try simp only [List.set_cons_zero, List.set_cons_succ] at h)
  rw [(dec_enc firstC first_right).2, if_pos (dec_enc firstC first_right).1] at h
  have hvo : v12.oneCell' = true := Views.oneCell (Views.own 0 rfl) h.2
  refine wv h (r_move h rfl) rfl ?_
  clear h a w; intro a w h
  refine wv h (r_extractN h rfl rfl) rfl ?_
  clear h a w; intro a w h
  refine wv h (r_extractN h rfl rfl) rfl ?_
  clear h a w; intro a w h
  refine wl rfl (op_alloc h K.z_api_Commit rfl ?_)
  clear h a w; intro b3 a w h
  refine wl rfl (op_stA h rfl rfl K.sz_api_Commit (cmC_len _ _ _) (cmC_one hvo rfl) 0 rfl rfl ?_)
  clear h a w; intro a w h
  refine wv h (r_assign h rfl) rfl ?_
  clear h a w; intro a w h
  refine wnil (c_then ?_)
  refine c_seq (c_region ?_)
  refine wv h (r_move h rfl) rfl ?_
  clear h a w; intro a w h
  refine wv h (r_bin h rfl rfl (B.eql_int)) rfl ?_
  clear h a w; intro a w h
  refine wv h (r_move h rfl) rfl ?_
  clear h a w; intro a w h
  refine wvG h (by first | exact .t rfl | exact .f rfl | exact .gt rfl | exact .gf rfl) (fun hg => by (try simp only [↓gval_on hg, ↓gval_and hg] at h); (have hg2 := hg; (try simp only [Bool.and_eq_true, Bool.or_eq_true, Bool.not_eq_true', decide_eq_true_eq, decide_eq_false_iff_not] at hg2)); first | exact r_move h rfl) rfl ?_
  clear h a w; intro a w h
  refine wvG h (by first | exact .t rfl | exact .f rfl | exact .gt rfl | exact .gf rfl) (fun hg => by (try simp only [↓gval_on hg, ↓gval_and hg] at h); (have hg2 := hg; (try simp only [Bool.and_eq_true, Bool.or_eq_true, Bool.not_eq_true', decide_eq_true_eq, decide_eq_false_iff_not] at hg2)); first | exact r_bin h rfl rfl (B.eql_int)) rfl ?_
  clear h a w; intro a w h
  first
    | (refine wv h (r_pickA h rfl rfl rfl) rfl ?_)
    | (refine wv h (r_pickO h rfl rfl rfl) rfl ?_)
    | (refine wv h (r_pick_true h rfl rfl) rfl ?_)
    | (refine wv h (r_pick_false h rfl rfl) rfl ?_)
    | (refine wv h (r_pick h rfl rfl rfl) rfl ?_)
  clear h a w; intro a w h
  refine wv h (r_move h rfl) rfl ?_
  clear h a w; intro a w h
  refine wvG h (by first | exact .t rfl | exact .f rfl | exact .gt rfl | exact .gf rfl) (fun hg => by (try simp only [↓gval_on hg, ↓gval_and hg] at h); (have hg2 := hg; (try simp only [Bool.and_eq_true, Bool.or_eq_true, Bool.not_eq_true', decide_eq_true_eq, decide_eq_false_iff_not] at hg2)); first | exact r_fieldAddr h 33 rfl K.u_api_Commit rfl K.sz_string rfl rfl) rfl ?_
  clear h a w; intro a w h
  refine wvG h (by first | exact .t rfl | exact .f rfl | exact .gt rfl | exact .gf rfl) (fun hg => by (try simp only [↓gval_on hg, ↓gval_and hg] at h); (have hg2 := hg; (try simp only [Bool.and_eq_true, Bool.or_eq_true, Bool.not_eq_true', decide_eq_true_eq, decide_eq_false_iff_not] at hg2)); first | exact r_ldN h rfl K.u_string rfl 0 rfl rfl | exact r_ldN h rfl K.u_string rfl 1 rfl rfl | exact r_ldN h rfl K.u_string rfl 2 rfl rfl | exact r_ldN h rfl K.u_string rfl 3 rfl rfl | exact r_ldN h rfl K.u_string rfl 4 rfl rfl | exact r_ldN h rfl K.u_string rfl 5 rfl rfl | exact r_ldN h rfl K.u_string rfl 6 rfl rfl | exact r_ldC (o := 33) h rfl K.u_string rfl 0 rfl | exact r_ldC (o := 33) h rfl K.u_string rfl 1 rfl | exact r_ldC (o := 33) h rfl K.u_string rfl 2 rfl | exact r_ldC (o := 33) h rfl K.u_string rfl 3 rfl | exact r_ldC (o := 33) h rfl K.u_string rfl 4 rfl | exact r_ldC (o := 33) h rfl K.u_string rfl 5 rfl | exact r_ldC (o := 33) h rfl K.u_string rfl 6 rfl | exact r_load h rfl K.u_string rfl 0 rfl rfl | exact r_load h rfl K.u_string rfl 1 rfl rfl | exact r_load h rfl K.u_string rfl 2 rfl rfl | exact r_load h rfl K.u_string rfl 3 rfl rfl | exact r_load h rfl K.u_string rfl 4 rfl rfl | exact r_load h rfl K.u_string rfl 5 rfl rfl | exact r_load1 h rfl K.u_string rfl (by assumption)) rfl ?_
  clear h a w; intro a w h
  refine wvG h (by first | exact .t rfl | exact .f rfl | exact .gt rfl | exact .gf rfl) (fun hg => by (try simp only [↓gval_on hg, ↓gval_and hg] at h); (have hg2 := hg; (try simp only [Bool.and_eq_true, Bool.or_eq_true, Bool.not_eq_true', decide_eq_true_eq, decide_eq_false_iff_not] at hg2)); first | exact r_streq h rfl rfl) rfl ?_
  clear h a w; intro a w h
  first
    | (refine wv h (r_pickA h rfl rfl rfl) rfl ?_)
    | (refine wv h (r_pickO h rfl rfl rfl) rfl ?_)
    | (refine wv h (r_pick_true h rfl rfl) rfl ?_)
    | (refine wv h (r_pick_false h rfl rfl) rfl ?_)
    | (refine wv h (r_pick h rfl rfl rfl) rfl ?_)
  clear h a w; intro a w h
  refine wv h (r_move h rfl) rfl ?_
  clear h a w; intro a w h
  refine wvG h (by first | exact .t rfl | exact .f rfl | exact .gt rfl | exact .gf rfl) (fun hg => by (try simp only [↓gval_on hg, ↓gval_and hg] at h); (have hg2 := hg; (try simp only [Bool.and_eq_true, Bool.or_eq_true, Bool.not_eq_true', decide_eq_true_eq, decide_eq_false_iff_not] at hg2)); first | exact r_fieldAddr h 32 rfl K.u_api_Commit rfl K.sz_S_api_Key rfl rfl) rfl ?_
  clear h a w; intro a w h
  refine wvG h (by first | exact .t rfl | exact .f rfl | exact .gt rfl | exact .gf rfl) (fun hg => by (try simp only [↓gval_on hg, ↓gval_and hg] at h); (have hg2 := hg; (try simp only [Bool.and_eq_true, Bool.or_eq_true, Bool.not_eq_true', decide_eq_true_eq, decide_eq_false_iff_not] at hg2)); first | exact r_ldN h rfl K.u_S_api_Key rfl 0 rfl rfl | exact r_ldN h rfl K.u_S_api_Key rfl 1 rfl rfl | exact r_ldN h rfl K.u_S_api_Key rfl 2 rfl rfl | exact r_ldN h rfl K.u_S_api_Key rfl 3 rfl rfl | exact r_ldN h rfl K.u_S_api_Key rfl 4 rfl rfl | exact r_ldN h rfl K.u_S_api_Key rfl 5 rfl rfl | exact r_ldN h rfl K.u_S_api_Key rfl 6 rfl rfl | exact r_ldC (o := 32) h rfl K.u_S_api_Key rfl 0 rfl | exact r_ldC (o := 32) h rfl K.u_S_api_Key rfl 1 rfl | exact r_ldC (o := 32) h rfl K.u_S_api_Key rfl 2 rfl | exact r_ldC (o := 32) h rfl K.u_S_api_Key rfl 3 rfl | exact r_ldC (o := 32) h rfl K.u_S_api_Key rfl 4 rfl | exact r_ldC (o := 32) h rfl K.u_S_api_Key rfl 5 rfl | exact r_ldC (o := 32) h rfl K.u_S_api_Key rfl 6 rfl | exact r_load h rfl K.u_S_api_Key rfl 0 rfl rfl | exact r_load h rfl K.u_S_api_Key rfl 1 rfl rfl | exact r_load h rfl K.u_S_api_Key rfl 2 rfl rfl | exact r_load h rfl K.u_S_api_Key rfl 3 rfl rfl | exact r_load h rfl K.u_S_api_Key rfl 4 rfl rfl | exact r_load h rfl K.u_S_api_Key rfl 5 rfl rfl | exact r_load1 h rfl K.u_S_api_Key rfl (by assumption)) rfl ?_
  clear h a w; intro a w h
  refine wvG h (by first | exact .t rfl | exact .f rfl | exact .gt rfl | exact .gf rfl) (fun hg => by (try simp only [↓gval_on hg, ↓gval_and hg] at h); (have hg2 := hg; (try simp only [Bool.and_eq_true, Bool.or_eq_true, Bool.not_eq_true', decide_eq_true_eq, decide_eq_false_iff_not] at hg2)); first | exact r_lenV h rfl K.u_S_api_Key (by first | exact Views.own 0 rfl | exact Views.own 1 rfl | exact Views.own 2 rfl | exact Views.own 3 rfl | exact Views.own 4 rfl | exact Views.own 5 rfl | assumption | exact Views.of_drop 1 (by assumption) | exact Views.of_drop 2 (by assumption) | exact Views.of_drop 3 (by assumption) | exact Views.of_drop 4 (by assumption) | exact Views.of_drop 5 (by assumption) | exact Views.of_drop 6 (by assumption) | exact Views.of_drop 7 (by assumption) | exact Views.of_drop 8 (by assumption) | exact Views.of_drop 9 (by assumption) | exact Views.of_drop 10 (by assumption) | exact Views.of_drop 11 (by assumption) | exact Views.of_drop 12 (by assumption))) rfl ?_
  clear h a w; intro a w h
  refine wvG h (by first | exact .t rfl | exact .f rfl | exact .gt rfl | exact .gf rfl) (fun hg => by (try simp only [↓gval_on hg, ↓gval_and hg] at h); (have hg2 := hg; (try simp only [Bool.and_eq_true, Bool.or_eq_true, Bool.not_eq_true', decide_eq_true_eq, decide_eq_false_iff_not] at hg2)); first | exact r_bin h rfl rfl (B.eql_int)) rfl ?_
  clear h a w; intro a w h
  first
    | (refine wv h (r_pickA h rfl rfl rfl) rfl ?_)
    | (refine wv h (r_pickO h rfl rfl rfl) rfl ?_)
    | (refine wv h (r_pick_true h rfl rfl) rfl ?_)
    | (refine wv h (r_pick_false h rfl rfl) rfl ?_)
    | (refine wv h (r_pick h rfl rfl rfl) rfl ?_)
  clear h a w; intro a w h
  refine wv h (r_move h rfl) rfl ?_
  clear h a w; intro a w h
  first
    | (refine wv h (r_pickA h rfl rfl rfl) rfl ?_)
    | (refine wv h (r_pickO h rfl rfl rfl) rfl ?_)
    | (refine wv h (r_pick_true h rfl rfl) rfl ?_)
    | (refine wv h (r_pick_false h rfl rfl) rfl ?_)
    | (refine wv h (r_pick h rfl rfl rfl) rfl ?_)
  clear h a w; intro a w h
  refine wv h (r_assign h rfl) rfl ?_
  clear h a w; intro a w h
  refine wnil (c_then ?_)
  refine c_ret ?_
  exact ret1 h rfl rfl ⟨(), ret_true (by rfl), (by first | exact h.2 | exact h.2.drop 1 | exact h.2.drop 2 | exact h.2.drop 3 | exact h.2.drop 4 | exact h.2.drop 5 | exact h.2.drop 6 | exact h.2.drop 7 | exact h.2.drop 8 | exact h.2.drop 9 | exact h.2.drop 10 | exact h.2.drop 11 | exact h.2.drop 12 | exact h.2.drop 13 | exact h.2.drop 14 | exact h.2.drop 15 | exact h.2.drop 16), trivial⟩

def rowK (k : Nat) : List K32 := (List.range k).map fun j : Nat => BA.of 32 [UInt8.ofInt (j : Int)]
theorem rowK_len (k : Nat) : (rowK k).length = k := by simp [rowK]
theorem rowK_succ (k : Nat) : rowK (k + 1) = rowK k ++ [BA.of 32 [UInt8.ofInt (k : Int)]] := by simp [rowK, List.range_succ]
theorem rowK_right (m k : Nat) (hm : m < 5) (hk : k < 4) : rightC ⟨BA.zero 32, rowK k, List.replicate (28 + m) 0⟩ = (decide (m < 3) && decide (k < 3)) := by
  have h : ∀ m < 5, ∀ k < 4, rightC ⟨BA.zero 32, rowK k, List.replicate (28 + m) 0⟩ = (decide (m < 3) && decide (k < 3)) := by decide +kernel
  exact h m hm k hk

end Go.Proofs.K
