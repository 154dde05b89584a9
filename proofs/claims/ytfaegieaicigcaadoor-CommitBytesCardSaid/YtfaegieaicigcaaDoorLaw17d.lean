/- The laws of layer 17, walked: when two commits are one; their keys. -/
import Derived.Test.YtfaegieaicigcaaDoorLaw17
import Derived.Test.YtfaegieaicigcaaDoorCommitOpen
import Derived.Test.YtfaegieaicigcaaDoorStampb
set_option linter.unusedVariables false
set_option linter.unusedSimpArgs false
set_option maxRecDepth 10000
set_option maxHeartbeats 4000000
namespace Go.Proofs.K
open Go.Sl
attribute [local irreducible] Go.Sl.Own Go.Sl.Blk Go.Sl.Sep Go.Sl.Ex Go.Sl.Fact

theorem commit_Key (s w : World) (c : Cm) (pv : Value) (F : List HItem) (hr : rightC c = true) (hT : HasParts F) (hF : HasFirst F) (hp : Views F 32 pv c.parents.length (c.parents.flatMap cellsA)) (hs : Sat s w F) :
    Calls P n_commit_Key #[.agg ⟨cmC c.chart pv (sv c.note)⟩] w (Ret s (fun _ : Unit => .agg (arr8 (sha (encC c)))) (fun _ => F) (fun _ => True)) := by
  have hl := encC_len c hr
  refine enter K.fn_commit_Key rfl K.nt_commit_Key rfl hs ?_
  clear hs w; intro a w h
  refine c_seq (c_region ?_)
  refine wl rfl (op_box h rfl rfl ?_)
  clear h a w; intro b1 a w h
  try simp only [Value.cells] at h
  refine wl rfl (op_alloc h K.z_api_Key rfl ?_)
  clear h a w; intro b2 a w h
  rw [show (Value.agg (Array.replicate 32 (Value.int .u8 0))).cells = arr8 (List.replicate 32 0) from (arr8_zero 32).symm] at h
  refine wnil (c_then ?_)
  refine c_seq (c_region ?_)
  first
    | (refine wv h (r_ldA h rfl K.u_api_Commit rfl K.sz_api_Commit 0 rfl (by first | exact Row.len _ | rfl | assumption | (simp; done) | (simp; omega) | omega)) rfl ?_)
    | (refine wv h (r_ldA h rfl K.u_api_Commit rfl K.sz_api_Commit 1 rfl (by first | exact Row.len _ | rfl | assumption | (simp; done) | (simp; omega) | omega)) rfl ?_)
    | (refine wv h (r_ldA h rfl K.u_api_Commit rfl K.sz_api_Commit 2 rfl (by first | exact Row.len _ | rfl | assumption | (simp; done) | (simp; omega) | omega)) rfl ?_)
    | (refine wv h (r_ldA h rfl K.u_api_Commit rfl K.sz_api_Commit 3 rfl (by first | exact Row.len _ | rfl | assumption | (simp; done) | (simp; omega) | omega)) rfl ?_)
    | (refine wv h (r_ldA h rfl K.u_api_Commit rfl K.sz_api_Commit 4 rfl (by first | exact Row.len _ | rfl | assumption | (simp; done) | (simp; omega) | omega)) rfl ?_)
    | (refine wv h (r_ldA h rfl K.u_api_Commit rfl K.sz_api_Commit 5 rfl (by first | exact Row.len _ | rfl | assumption | (simp; done) | (simp; omega) | omega)) rfl ?_)
    | (refine wv h (r_loadCA h rfl K.u_api_Commit rfl K.sz_api_Commit (by assumption) (by first | rfl | assumption | (simp; done) | (simp; omega) | omega)) rfl ?_)
  clear h a w; intro a w h
  refine wl rfl (op_call h rfl K.go_commit_Encode (commit_Encode s _ c pv _ (by first | exact Views.own 0 rfl | exact Views.own 1 rfl | exact Views.own 2 rfl | exact Views.own 3 rfl | exact Views.own 4 rfl | exact Views.own 5 rfl | assumption | exact Views.of_drop 1 (by assumption) | exact Views.of_drop 2 (by assumption) | exact Views.of_drop 3 (by assumption) | exact Views.of_drop 4 (by assumption) | exact Views.of_drop 5 (by assumption) | exact Views.of_drop 6 (by assumption) | exact Views.of_drop 7 (by assumption) | exact Views.of_drop 8 (by assumption) | exact Views.of_drop 9 (by assumption) | exact Views.of_drop 10 (by assumption) | exact Views.of_drop 11 (by assumption) | exact Views.of_drop 12 (by assumption)) h.2) rfl ?_)
  clear h a w; intro v7 a w hx h
  (try simp only [List.set_cons_zero, List.set_cons_succ] at h)
  rw [if_pos hr, if_pos hr] at h
  refine wv h (r_move h rfl) rfl ?_
  clear h a w; intro a w h
  refine wv h (r_extractN h rfl rfl) rfl ?_
  clear h a w; intro a w h
  refine wv h (r_extractN h rfl rfl) rfl ?_
  clear h a w; intro a w h
  refine wv h (r_assign h rfl) rfl ?_
  clear h a w; intro a w h
  refine wv h (r_assign h rfl) rfl ?_
  clear h a w; intro a w h
  refine wnil (c_then ?_)
  refine c_seq (c_region ?_)
  refine wv h (r_move h rfl) rfl ?_
  clear h a w; intro a w h
  refine wl rfl (op_call h rfl K.go_stamp_Of (stamp_Of s _ _ _ _ (by first | assumption | exact CellsAt.of_drop 1 (by assumption) | exact CellsAt.of_drop 2 (by assumption) | exact CellsAt.of_drop 3 (by assumption) | exact CellsAt.of_drop 4 (by assumption) | exact CellsAt.of_drop 5 (by assumption) | exact CellsAt.of_drop 6 (by assumption) | exact CellsAt.of_drop 7 (by assumption) | exact CellsAt.of_drop 8 (by assumption) | exact CellsAt.of_drop 9 (by assumption) | exact CellsAt.of_drop 10 (by assumption) | exact CellsAt.of_drop 11 (by assumption) | exact CellsAt.of_drop 12 (by assumption)) (by first | assumption | exact CellsAt.of_drop 1 (by assumption) | exact CellsAt.of_drop 2 (by assumption) | exact CellsAt.of_drop 3 (by assumption) | exact CellsAt.of_drop 4 (by assumption) | exact CellsAt.of_drop 5 (by assumption) | exact CellsAt.of_drop 6 (by assumption) | exact CellsAt.of_drop 7 (by assumption) | exact CellsAt.of_drop 8 (by assumption) | exact CellsAt.of_drop 9 (by assumption) | exact CellsAt.of_drop 10 (by assumption) | exact CellsAt.of_drop 11 (by assumption) | exact CellsAt.of_drop 12 (by assumption)) (by first | exact ViewsB.own 0 rfl | exact ViewsB.own 1 rfl | exact ViewsB.own 2 rfl | exact ViewsB.own 3 rfl | exact ViewsB.own 4 rfl | exact ViewsB.own 5 rfl | assumption | exact ViewsB.nil _ | exact ViewsB.arr 0 rfl (by first | assumption | rfl | (simp; done)) (Nat.le_refl _) (by simp [maxLen]) | exact ViewsB.arr 1 rfl (by first | assumption | rfl | (simp; done)) (Nat.le_refl _) (by simp [maxLen]) | exact ViewsB.arr 2 rfl (by first | assumption | rfl | (simp; done)) (Nat.le_refl _) (by simp [maxLen]) | exact ViewsB.arr 3 rfl (by first | assumption | rfl | (simp; done)) (Nat.le_refl _) (by simp [maxLen]) | exact ViewsB.arr 4 rfl (by first | assumption | rfl | (simp; done)) (Nat.le_refl _) (by simp [maxLen]) | exact ViewsB.of_drop 1 (by assumption) | exact ViewsB.of_drop 2 (by assumption) | exact ViewsB.of_drop 3 (by assumption) | exact ViewsB.of_drop 4 (by assumption) | exact ViewsB.of_drop 5 (by assumption) | exact ViewsB.of_drop 6 (by assumption) | exact ViewsB.of_drop 7 (by assumption) | exact ViewsB.of_drop 8 (by assumption) | exact ViewsB.of_drop 9 (by assumption) | exact ViewsB.of_drop 10 (by assumption) | exact ViewsB.of_drop 11 (by assumption) | exact ViewsB.of_drop 12 (by assumption) | exact ViewsB.sub (by first | exact ViewsB.own 0 rfl | exact ViewsB.own 1 rfl | exact ViewsB.own 2 rfl | exact ViewsB.own 3 rfl | exact ViewsB.own 4 rfl | exact ViewsB.own 5 rfl | assumption | exact ViewsB.nil _ | exact ViewsB.arr 0 rfl (by first | assumption | rfl | (simp; done)) (Nat.le_refl _) (by simp [maxLen]) | exact ViewsB.arr 1 rfl (by first | assumption | rfl | (simp; done)) (Nat.le_refl _) (by simp [maxLen]) | exact ViewsB.arr 2 rfl (by first | assumption | rfl | (simp; done)) (Nat.le_refl _) (by simp [maxLen]) | exact ViewsB.arr 3 rfl (by first | assumption | rfl | (simp; done)) (Nat.le_refl _) (by simp [maxLen]) | exact ViewsB.arr 4 rfl (by first | assumption | rfl | (simp; done)) (Nat.le_refl _) (by simp [maxLen]) | exact ViewsB.of_drop 1 (by assumption) | exact ViewsB.of_drop 2 (by assumption) | exact ViewsB.of_drop 3 (by assumption) | exact ViewsB.of_drop 4 (by assumption) | exact ViewsB.of_drop 5 (by assumption) | exact ViewsB.of_drop 6 (by assumption) | exact ViewsB.of_drop 7 (by assumption) | exact ViewsB.of_drop 8 (by assumption) | exact ViewsB.of_drop 9 (by assumption) | exact ViewsB.of_drop 10 (by assumption) | exact ViewsB.of_drop 11 (by assumption) | exact ViewsB.of_drop 12 (by assumption)) (by omega) (by first | omega | (simp; done) | (simp; omega))) (by omega) h.2) rfl ?_)
  clear h a w; intro x a w hx h
  (try simp only [List.set_cons_zero, List.set_cons_succ] at h)
  first
    | (refine wl rfl (op_storeA8 h rfl rfl K.sz_api_Key (by first | rfl | assumption | (simp; done) | (simp; omega) | omega) 0 rfl (by first | rfl | (simp [arr8]; done) | (simp [arr8]; omega) | (simp [arr8]; assumption)) ?_))
    | (refine wl rfl (op_storeA8 h rfl rfl K.sz_api_Key (by first | rfl | assumption | (simp; done) | (simp; omega) | omega) 1 rfl (by first | rfl | (simp [arr8]; done) | (simp [arr8]; omega) | (simp [arr8]; assumption)) ?_))
    | (refine wl rfl (op_storeA8 h rfl rfl K.sz_api_Key (by first | rfl | assumption | (simp; done) | (simp; omega) | omega) 2 rfl (by first | rfl | (simp [arr8]; done) | (simp [arr8]; omega) | (simp [arr8]; assumption)) ?_))
    | (refine wl rfl (op_storeA8 h rfl rfl K.sz_api_Key (by first | rfl | assumption | (simp; done) | (simp; omega) | omega) 3 rfl (by first | rfl | (simp [arr8]; done) | (simp [arr8]; omega) | (simp [arr8]; assumption)) ?_))
    | (refine wl rfl (op_storeA8 h rfl rfl K.sz_api_Key (by first | rfl | assumption | (simp; done) | (simp; omega) | omega) 4 rfl (by first | rfl | (simp [arr8]; done) | (simp [arr8]; omega) | (simp [arr8]; assumption)) ?_))
    | (refine wl rfl (op_storeA8 h rfl rfl K.sz_api_Key (by first | rfl | assumption | (simp; done) | (simp; omega) | omega) 5 rfl (by first | rfl | (simp [arr8]; done) | (simp [arr8]; omega) | (simp [arr8]; assumption)) ?_))
  clear h a w; intro a w h
  (try simp only [List.set_cons_zero, List.set_cons_succ] at h)
  refine wnil (c_then ?_)
  refine c_ret ?_
  exact retc h rfl rfl K.u_api_Key rfl K.sz_api_Key 1 rfl (by simp [arr8, sha_len]) ⟨(), rfl, h.2.drop 3, trivial⟩

theorem near_note (c d : Cm) : rightC ⟨(nearC c).chart, (nearC c).parents, (d.note.drop 0).take (min d.note.length 30 - 0)⟩ = true := by
  have h := near_right c
  simp only [rightC, Bool.and_eq_true, Bool.or_eq_true, decide_eq_true_eq] at h ⊢
  exact ⟨⟨h.1.1, by simp; omega⟩, h.2⟩

theorem commitEqual (s w : World) (c d : Cm) (pv qw : Value) (how : UInt8) (F : List HItem) (hT : HasParts F) (hF : HasFirst F) (hp : Views F 32 pv c.parents.length (c.parents.flatMap cellsA)) (hq : Views F 32 qw d.parents.length (d.parents.flatMap cellsA)) (hs : Sat s w F) :
    Calls P n_law17_CommitEqual #[.agg ⟨cmC c.chart pv (sv c.note)⟩, .agg ⟨cmC d.chart qw (sv d.note)⟩, bv how] w (Ret s (fun _ : Unit => .bool true) (fun _ => F) (fun _ => True)) := by
  refine enter K.fn_law17_CommitEqual rfl K.nt_law17_CommitEqual rfl hs ?_
  clear hs w; intro a w h
  refine c_seq (c_region ?_)
  refine wl rfl (op_box h rfl rfl ?_)
  clear h a w; intro b3 a w h
  try simp only [Value.cells] at h
  refine wl rfl (op_box h rfl rfl ?_)
  clear h a w; intro b4 a w h
  try simp only [Value.cells] at h
  refine wv h (r_assign h rfl) rfl ?_
  clear h a w; intro a w h
  refine wnil (c_then ?_)
  refine c_seq ?_
  refine c_seq (c_region ?_)
  refine wl rfl (op_call h rfl K.go_law17_awake (law17_awake s _ _ h.2) rfl ?_)
  clear h a w; intro x a w hx h
  (try simp only [List.set_cons_zero, List.set_cons_succ] at h)
  refine wv h (r_not h rfl) rfl ?_
  clear h a w; intro a w h
  refine wv h (r_move h rfl) rfl ?_
  clear h a w; intro a w h
  refine wvG h (by first | exact .t rfl | exact .f rfl | exact .gt rfl | exact .gf rfl) (fun hg => by (try simp only [↓gval_on hg, ↓gval_and hg] at h); (have hg2 := hg; (try simp only [Bool.and_eq_true, Bool.or_eq_true, Bool.not_eq_true', decide_eq_true_eq, decide_eq_false_iff_not] at hg2)); first | exact r_fieldAddr h 32 rfl K.u_api_Commit rfl K.sz_S_api_Key rfl rfl) rfl ?_
  clear h a w; intro a w h
  refine wvG h (by first | exact .t rfl | exact .f rfl | exact .gt rfl | exact .gf rfl) (fun hg => by (try simp only [↓gval_on hg, ↓gval_and hg] at h); (have hg2 := hg; (try simp only [Bool.and_eq_true, Bool.or_eq_true, Bool.not_eq_true', decide_eq_true_eq, decide_eq_false_iff_not] at hg2)); first | exact r_ldN h rfl K.u_S_api_Key rfl 0 rfl rfl | exact r_ldN h rfl K.u_S_api_Key rfl 1 rfl rfl | exact r_ldN h rfl K.u_S_api_Key rfl 2 rfl rfl | exact r_ldN h rfl K.u_S_api_Key rfl 3 rfl rfl | exact r_ldN h rfl K.u_S_api_Key rfl 4 rfl rfl | exact r_ldN h rfl K.u_S_api_Key rfl 5 rfl rfl | exact r_ldN h rfl K.u_S_api_Key rfl 6 rfl rfl | exact r_ldC (o := 32) h rfl K.u_S_api_Key rfl 0 rfl | exact r_ldC (o := 32) h rfl K.u_S_api_Key rfl 1 rfl | exact r_ldC (o := 32) h rfl K.u_S_api_Key rfl 2 rfl | exact r_ldC (o := 32) h rfl K.u_S_api_Key rfl 3 rfl | exact r_ldC (o := 32) h rfl K.u_S_api_Key rfl 4 rfl | exact r_ldC (o := 32) h rfl K.u_S_api_Key rfl 5 rfl | exact r_ldC (o := 32) h rfl K.u_S_api_Key rfl 6 rfl | exact r_load h rfl K.u_S_api_Key rfl 0 rfl rfl | exact r_load h rfl K.u_S_api_Key rfl 1 rfl rfl | exact r_load h rfl K.u_S_api_Key rfl 2 rfl rfl | exact r_load h rfl K.u_S_api_Key rfl 3 rfl rfl | exact r_load h rfl K.u_S_api_Key rfl 4 rfl rfl | exact r_load h rfl K.u_S_api_Key rfl 5 rfl rfl | exact r_load1 h rfl K.u_S_api_Key rfl (by assumption)) rfl ?_
  clear h a w; intro a w h
  refine wvG h (by first | exact .t rfl | exact .f rfl | exact .gt rfl | exact .gf rfl) (fun hg => by (try simp only [↓gval_on hg, ↓gval_and hg] at h); (have hg2 := hg; (try simp only [Bool.and_eq_true, Bool.or_eq_true, Bool.not_eq_true', decide_eq_true_eq, decide_eq_false_iff_not] at hg2)); first | exact r_lenV h rfl K.u_S_api_Key (by first | exact Views.own 0 rfl | exact Views.own 1 rfl | exact Views.own 2 rfl | exact Views.own 3 rfl | exact Views.own 4 rfl | exact Views.own 5 rfl | assumption | exact Views.of_drop 1 (by assumption) | exact Views.of_drop 2 (by assumption) | exact Views.of_drop 3 (by assumption) | exact Views.of_drop 4 (by assumption) | exact Views.of_drop 5 (by assumption) | exact Views.of_drop 6 (by assumption) | exact Views.of_drop 7 (by assumption) | exact Views.of_drop 8 (by assumption) | exact Views.of_drop 9 (by assumption) | exact Views.of_drop 10 (by assumption) | exact Views.of_drop 11 (by assumption) | exact Views.of_drop 12 (by assumption))) rfl ?_
  clear h a w; intro a w h
  refine wvG h (by first | exact .t rfl | exact .f rfl | exact .gt rfl | exact .gf rfl) (fun hg => by (try simp only [↓gval_on hg, ↓gval_and hg] at h); (have hg2 := hg; (try simp only [Bool.and_eq_true, Bool.or_eq_true, Bool.not_eq_true', decide_eq_true_eq, decide_eq_false_iff_not] at hg2)); first | exact r_bin h rfl rfl (B.gtr_int)) rfl ?_
  clear h a w; intro a w h
  first
    | (refine wv h (r_pickA h rfl rfl rfl) rfl ?_)
    | (refine wv h (r_pickO h rfl rfl rfl) rfl ?_)
    | (refine wv h (r_pick_true h rfl rfl) rfl ?_)
    | (refine wv h (r_pick_false h rfl rfl) rfl ?_)
    | (refine wv h (r_pick h rfl rfl rfl) rfl ?_)
  clear h a w; intro a w h
  refine wv h (r_move h rfl) rfl ?_
  clear h a w; intro a w h
  refine wvG h (by first | exact .t rfl | exact .f rfl | exact .gt rfl | exact .gf rfl) (fun hg => by (try simp only [↓gval_on hg, ↓gval_and hg] at h); (have hg2 := hg; (try simp only [Bool.and_eq_true, Bool.or_eq_true, Bool.not_eq_true', decide_eq_true_eq, decide_eq_false_iff_not] at hg2)); first | exact r_fieldAddr h 32 rfl K.u_api_Commit rfl K.sz_S_api_Key rfl rfl) rfl ?_
  clear h a w; intro a w h
  refine wvG h (by first | exact .t rfl | exact .f rfl | exact .gt rfl | exact .gf rfl) (fun hg => by (try simp only [↓gval_on hg, ↓gval_and hg] at h); (have hg2 := hg; (try simp only [Bool.and_eq_true, Bool.or_eq_true, Bool.not_eq_true', decide_eq_true_eq, decide_eq_false_iff_not] at hg2)); first | exact r_ldN h rfl K.u_S_api_Key rfl 0 rfl rfl | exact r_ldN h rfl K.u_S_api_Key rfl 1 rfl rfl | exact r_ldN h rfl K.u_S_api_Key rfl 2 rfl rfl | exact r_ldN h rfl K.u_S_api_Key rfl 3 rfl rfl | exact r_ldN h rfl K.u_S_api_Key rfl 4 rfl rfl | exact r_ldN h rfl K.u_S_api_Key rfl 5 rfl rfl | exact r_ldN h rfl K.u_S_api_Key rfl 6 rfl rfl | exact r_ldC (o := 32) h rfl K.u_S_api_Key rfl 0 rfl | exact r_ldC (o := 32) h rfl K.u_S_api_Key rfl 1 rfl | exact r_ldC (o := 32) h rfl K.u_S_api_Key rfl 2 rfl | exact r_ldC (o := 32) h rfl K.u_S_api_Key rfl 3 rfl | exact r_ldC (o := 32) h rfl K.u_S_api_Key rfl 4 rfl | exact r_ldC (o := 32) h rfl K.u_S_api_Key rfl 5 rfl | exact r_ldC (o := 32) h rfl K.u_S_api_Key rfl 6 rfl | exact r_load h rfl K.u_S_api_Key rfl 0 rfl rfl | exact r_load h rfl K.u_S_api_Key rfl 1 rfl rfl | exact r_load h rfl K.u_S_api_Key rfl 2 rfl rfl | exact r_load h rfl K.u_S_api_Key rfl 3 rfl rfl | exact r_load h rfl K.u_S_api_Key rfl 4 rfl rfl | exact r_load h rfl K.u_S_api_Key rfl 5 rfl rfl | exact r_load1 h rfl K.u_S_api_Key rfl (by assumption)) rfl ?_
  clear h a w; intro a w h
  refine wvG h (by first | exact .t rfl | exact .f rfl | exact .gt rfl | exact .gf rfl) (fun hg => by (try simp only [↓gval_on hg, ↓gval_and hg] at h); (have hg2 := hg; (try simp only [Bool.and_eq_true, Bool.or_eq_true, Bool.not_eq_true', decide_eq_true_eq, decide_eq_false_iff_not] at hg2)); first | exact r_lenV h rfl K.u_S_api_Key (by first | exact Views.own 0 rfl | exact Views.own 1 rfl | exact Views.own 2 rfl | exact Views.own 3 rfl | exact Views.own 4 rfl | exact Views.own 5 rfl | assumption | exact Views.of_drop 1 (by assumption) | exact Views.of_drop 2 (by assumption) | exact Views.of_drop 3 (by assumption) | exact Views.of_drop 4 (by assumption) | exact Views.of_drop 5 (by assumption) | exact Views.of_drop 6 (by assumption) | exact Views.of_drop 7 (by assumption) | exact Views.of_drop 8 (by assumption) | exact Views.of_drop 9 (by assumption) | exact Views.of_drop 10 (by assumption) | exact Views.of_drop 11 (by assumption) | exact Views.of_drop 12 (by assumption))) rfl ?_
  clear h a w; intro a w h
  refine wvG h (by first | exact .t rfl | exact .f rfl | exact .gt rfl | exact .gf rfl) (fun hg => by (try simp only [↓gval_on hg, ↓gval_and hg] at h); (have hg2 := hg; (try simp only [Bool.and_eq_true, Bool.or_eq_true, Bool.not_eq_true', decide_eq_true_eq, decide_eq_false_iff_not] at hg2)); first | exact r_bin h rfl rfl (B.gtr_int)) rfl ?_
  clear h a w; intro a w h
  first
    | (refine wv h (r_pickA h rfl rfl rfl) rfl ?_)
    | (refine wv h (r_pickO h rfl rfl rfl) rfl ?_)
    | (refine wv h (r_pick_true h rfl rfl) rfl ?_)
    | (refine wv h (r_pick_false h rfl rfl) rfl ?_)
    | (refine wv h (r_pick h rfl rfl rfl) rfl ?_)
  clear h a w; intro a w h
  refine wv h (r_move h rfl) rfl ?_
  clear h a w; intro a w h
  refine wvG h (by first | exact .t rfl | exact .f rfl | exact .gt rfl | exact .gf rfl) (fun hg => by (try simp only [↓gval_on hg, ↓gval_and hg] at h); (have hg2 := hg; (try simp only [Bool.and_eq_true, Bool.or_eq_true, Bool.not_eq_true', decide_eq_true_eq, decide_eq_false_iff_not] at hg2)); first | exact r_fieldAddr h 33 rfl K.u_api_Commit rfl K.sz_string rfl rfl) rfl ?_
  clear h a w; intro a w h
  refine wvG h (by first | exact .t rfl | exact .f rfl | exact .gt rfl | exact .gf rfl) (fun hg => by (try simp only [↓gval_on hg, ↓gval_and hg] at h); (have hg2 := hg; (try simp only [Bool.and_eq_true, Bool.or_eq_true, Bool.not_eq_true', decide_eq_true_eq, decide_eq_false_iff_not] at hg2)); first | exact r_ldN h rfl K.u_string rfl 0 rfl rfl | exact r_ldN h rfl K.u_string rfl 1 rfl rfl | exact r_ldN h rfl K.u_string rfl 2 rfl rfl | exact r_ldN h rfl K.u_string rfl 3 rfl rfl | exact r_ldN h rfl K.u_string rfl 4 rfl rfl | exact r_ldN h rfl K.u_string rfl 5 rfl rfl | exact r_ldN h rfl K.u_string rfl 6 rfl rfl | exact r_ldC (o := 33) h rfl K.u_string rfl 0 rfl | exact r_ldC (o := 33) h rfl K.u_string rfl 1 rfl | exact r_ldC (o := 33) h rfl K.u_string rfl 2 rfl | exact r_ldC (o := 33) h rfl K.u_string rfl 3 rfl | exact r_ldC (o := 33) h rfl K.u_string rfl 4 rfl | exact r_ldC (o := 33) h rfl K.u_string rfl 5 rfl | exact r_ldC (o := 33) h rfl K.u_string rfl 6 rfl | exact r_load h rfl K.u_string rfl 0 rfl rfl | exact r_load h rfl K.u_string rfl 1 rfl rfl | exact r_load h rfl K.u_string rfl 2 rfl rfl | exact r_load h rfl K.u_string rfl 3 rfl rfl | exact r_load h rfl K.u_string rfl 4 rfl rfl | exact r_load h rfl K.u_string rfl 5 rfl rfl | exact r_load1 h rfl K.u_string rfl (by assumption)) rfl ?_
  clear h a w; intro a w h
  refine wvG h (by first | exact .t rfl | exact .f rfl | exact .gt rfl | exact .gf rfl) (fun hg => by (try simp only [↓gval_on hg, ↓gval_and hg] at h); (have hg2 := hg; (try simp only [Bool.and_eq_true, Bool.or_eq_true, Bool.not_eq_true', decide_eq_true_eq, decide_eq_false_iff_not] at hg2)); first | exact r_lenT h rfl K.u_string) rfl ?_
  clear h a w; intro a w h
  refine wvG h (by first | exact .t rfl | exact .f rfl | exact .gt rfl | exact .gf rfl) (fun hg => by (try simp only [↓gval_on hg, ↓gval_and hg] at h); (have hg2 := hg; (try simp only [Bool.and_eq_true, Bool.or_eq_true, Bool.not_eq_true', decide_eq_true_eq, decide_eq_false_iff_not] at hg2)); first | exact r_bin h rfl rfl (B.gtr_int)) rfl ?_
  clear h a w; intro a w h
  first
    | (refine wv h (r_pickA h rfl rfl rfl) rfl ?_)
    | (refine wv h (r_pickO h rfl rfl rfl) rfl ?_)
    | (refine wv h (r_pick_true h rfl rfl) rfl ?_)
    | (refine wv h (r_pick_false h rfl rfl) rfl ?_)
    | (refine wv h (r_pick h rfl rfl rfl) rfl ?_)
  clear h a w; intro a w h
  refine wv h (r_move h rfl) rfl ?_
  clear h a w; intro a w h
  refine wvG h (by first | exact .t rfl | exact .f rfl | exact .gt rfl | exact .gf rfl) (fun hg => by (try simp only [↓gval_on hg, ↓gval_and hg] at h); (have hg2 := hg; (try simp only [Bool.and_eq_true, Bool.or_eq_true, Bool.not_eq_true', decide_eq_true_eq, decide_eq_false_iff_not] at hg2)); first | exact r_fieldAddr h 33 rfl K.u_api_Commit rfl K.sz_string rfl rfl) rfl ?_
  clear h a w; intro a w h
  refine wvG h (by first | exact .t rfl | exact .f rfl | exact .gt rfl | exact .gf rfl) (fun hg => by (try simp only [↓gval_on hg, ↓gval_and hg] at h); (have hg2 := hg; (try simp only [Bool.and_eq_true, Bool.or_eq_true, Bool.not_eq_true', decide_eq_true_eq, decide_eq_false_iff_not] at hg2)); first | exact r_ldN h rfl K.u_string rfl 0 rfl rfl | exact r_ldN h rfl K.u_string rfl 1 rfl rfl | exact r_ldN h rfl K.u_string rfl 2 rfl rfl | exact r_ldN h rfl K.u_string rfl 3 rfl rfl | exact r_ldN h rfl K.u_string rfl 4 rfl rfl | exact r_ldN h rfl K.u_string rfl 5 rfl rfl | exact r_ldN h rfl K.u_string rfl 6 rfl rfl | exact r_ldC (o := 33) h rfl K.u_string rfl 0 rfl | exact r_ldC (o := 33) h rfl K.u_string rfl 1 rfl | exact r_ldC (o := 33) h rfl K.u_string rfl 2 rfl | exact r_ldC (o := 33) h rfl K.u_string rfl 3 rfl | exact r_ldC (o := 33) h rfl K.u_string rfl 4 rfl | exact r_ldC (o := 33) h rfl K.u_string rfl 5 rfl | exact r_ldC (o := 33) h rfl K.u_string rfl 6 rfl | exact r_load h rfl K.u_string rfl 0 rfl rfl | exact r_load h rfl K.u_string rfl 1 rfl rfl | exact r_load h rfl K.u_string rfl 2 rfl rfl | exact r_load h rfl K.u_string rfl 3 rfl rfl | exact r_load h rfl K.u_string rfl 4 rfl rfl | exact r_load h rfl K.u_string rfl 5 rfl rfl | exact r_load1 h rfl K.u_string rfl (by assumption)) rfl ?_
  clear h a w; intro a w h
  refine wvG h (by first | exact .t rfl | exact .f rfl | exact .gt rfl | exact .gf rfl) (fun hg => by (try simp only [↓gval_on hg, ↓gval_and hg] at h); (have hg2 := hg; (try simp only [Bool.and_eq_true, Bool.or_eq_true, Bool.not_eq_true', decide_eq_true_eq, decide_eq_false_iff_not] at hg2)); first | exact r_lenT h rfl K.u_string) rfl ?_
  clear h a w; intro a w h
  refine wvG h (by first | exact .t rfl | exact .f rfl | exact .gt rfl | exact .gf rfl) (fun hg => by (try simp only [↓gval_on hg, ↓gval_and hg] at h); (have hg2 := hg; (try simp only [Bool.and_eq_true, Bool.or_eq_true, Bool.not_eq_true', decide_eq_true_eq, decide_eq_false_iff_not] at hg2)); first | exact r_bin h rfl rfl (B.gtr_int)) rfl ?_
  clear h a w; intro a w h
  first
    | (refine wv h (r_pickA h rfl rfl rfl) rfl ?_)
    | (refine wv h (r_pickO h rfl rfl rfl) rfl ?_)
    | (refine wv h (r_pick_true h rfl rfl) rfl ?_)
    | (refine wv h (r_pick_false h rfl rfl) rfl ?_)
    | (refine wv h (r_pick h rfl rfl rfl) rfl ?_)
  clear h a w; intro a w h
  refine wnil (c_then ?_)
  first
    | refine c_condD h rfl (fun ht1 => ?_) (fun ht1 => ?_)
    | refine c_condP h rfl (by first | (simp only [Bool.and_eq_true, Bool.or_eq_true, Bool.not_eq_true', decide_eq_true_eq, decide_eq_false_iff_not, ne_eq, Bool.not_eq_eq_eq_not, Bool.not_true, beq_iff_eq, bne_iff_ne]; exact Iff.rfl) | exact Iff.rfl) (fun ht1 => ?_) (fun ht1 => ?_)
  ·
    as_aux_lemma =>
      refine c_seq (c_region ?_)
      refine wl rfl (op_call h rfl K.go_law17_awake (law17_awake s _ _ h.2) rfl ?_)
      clear h a w; intro x a w hx h
      (try simp only [List.set_cons_zero, List.set_cons_succ] at h)
      refine wv h (r_assign h rfl) rfl ?_
      clear h a w; intro a w h
      refine wnil (c_then ?_)
      refine c_ret ?_
      exact ret1 h rfl rfl ⟨(), rfl, (by first | exact h.2 | exact h.2.drop 1 | exact h.2.drop 2 | exact h.2.drop 3 | exact h.2.drop 4 | exact h.2.drop 5 | exact h.2.drop 6 | exact h.2.drop 7 | exact h.2.drop 8 | exact h.2.drop 9 | exact h.2.drop 10 | exact h.2.drop 11 | exact h.2.drop 12 | exact h.2.drop 13 | exact h.2.drop 14 | exact h.2.drop 15 | exact h.2.drop 16), trivial⟩
  ·
    refine c_skip ?_
    refine c_then ?_
    refine c_seq (c_region ?_)
    first
      | (refine wv h (r_ldA h rfl K.u_api_Commit rfl K.sz_api_Commit 0 rfl (by first | exact Row.len _ | rfl | assumption | (simp; done) | (simp; omega) | omega)) rfl ?_)
      | (refine wv h (r_ldA h rfl K.u_api_Commit rfl K.sz_api_Commit 1 rfl (by first | exact Row.len _ | rfl | assumption | (simp; done) | (simp; omega) | omega)) rfl ?_)
      | (refine wv h (r_ldA h rfl K.u_api_Commit rfl K.sz_api_Commit 2 rfl (by first | exact Row.len _ | rfl | assumption | (simp; done) | (simp; omega) | omega)) rfl ?_)
      | (refine wv h (r_ldA h rfl K.u_api_Commit rfl K.sz_api_Commit 3 rfl (by first | exact Row.len _ | rfl | assumption | (simp; done) | (simp; omega) | omega)) rfl ?_)
      | (refine wv h (r_ldA h rfl K.u_api_Commit rfl K.sz_api_Commit 4 rfl (by first | exact Row.len _ | rfl | assumption | (simp; done) | (simp; omega) | omega)) rfl ?_)
      | (refine wv h (r_ldA h rfl K.u_api_Commit rfl K.sz_api_Commit 5 rfl (by first | exact Row.len _ | rfl | assumption | (simp; done) | (simp; omega) | omega)) rfl ?_)
      | (refine wv h (r_loadCA h rfl K.u_api_Commit rfl K.sz_api_Commit (by assumption) (by first | rfl | assumption | (simp; done) | (simp; omega) | omega)) rfl ?_)
    clear h a w; intro a w h
    refine wl rfl (op_call h rfl K.go_law17_near (law17_near s _ c _ _ (by first | exact Views.own 0 rfl | exact Views.own 1 rfl | exact Views.own 2 rfl | exact Views.own 3 rfl | exact Views.own 4 rfl | exact Views.own 5 rfl | assumption | exact Views.of_drop 1 (by assumption) | exact Views.of_drop 2 (by assumption) | exact Views.of_drop 3 (by assumption) | exact Views.of_drop 4 (by assumption) | exact Views.of_drop 5 (by assumption) | exact Views.of_drop 6 (by assumption) | exact Views.of_drop 7 (by assumption) | exact Views.of_drop 8 (by assumption) | exact Views.of_drop 9 (by assumption) | exact Views.of_drop 10 (by assumption) | exact Views.of_drop 11 (by assumption) | exact Views.of_drop 12 (by assumption)) h.2) rfl ?_)
    clear h a w; intro v38 a w hv38 h
    (try simp only [List.set_cons_zero, List.set_cons_succ] at h)
    have ho38 := Views.oneCell hv38 h.2
    refine wl rfl (op_alloc h K.z_api_Commit rfl ?_)
    clear h a w; intro b7 a w h
    refine wl rfl (op_stA h rfl rfl K.sz_api_Commit (cmC_len _ _ _) (cmC_one ho38 rfl) 0 rfl rfl ?_)
    clear h a w; intro a w h
    refine wnil (c_then ?_)
    refine c_seq (c_region ?_)
    first
      | (refine wv h (r_ldA h rfl K.u_api_Commit rfl K.sz_api_Commit 0 rfl (by first | exact Row.len _ | rfl | assumption | (simp; done) | (simp; omega) | omega)) rfl ?_)
      | (refine wv h (r_ldA h rfl K.u_api_Commit rfl K.sz_api_Commit 1 rfl (by first | exact Row.len _ | rfl | assumption | (simp; done) | (simp; omega) | omega)) rfl ?_)
      | (refine wv h (r_ldA h rfl K.u_api_Commit rfl K.sz_api_Commit 2 rfl (by first | exact Row.len _ | rfl | assumption | (simp; done) | (simp; omega) | omega)) rfl ?_)
      | (refine wv h (r_ldA h rfl K.u_api_Commit rfl K.sz_api_Commit 3 rfl (by first | exact Row.len _ | rfl | assumption | (simp; done) | (simp; omega) | omega)) rfl ?_)
      | (refine wv h (r_ldA h rfl K.u_api_Commit rfl K.sz_api_Commit 4 rfl (by first | exact Row.len _ | rfl | assumption | (simp; done) | (simp; omega) | omega)) rfl ?_)
      | (refine wv h (r_ldA h rfl K.u_api_Commit rfl K.sz_api_Commit 5 rfl (by first | exact Row.len _ | rfl | assumption | (simp; done) | (simp; omega) | omega)) rfl ?_)
      | (refine wv h (r_loadCA h rfl K.u_api_Commit rfl K.sz_api_Commit (by assumption) (by first | rfl | assumption | (simp; done) | (simp; omega) | omega)) rfl ?_)
    clear h a w; intro a w h
    refine wl rfl (op_call h rfl K.go_law17_near (law17_near s _ d _ _ (by first | exact Views.own 0 rfl | exact Views.own 1 rfl | exact Views.own 2 rfl | exact Views.own 3 rfl | exact Views.own 4 rfl | exact Views.own 5 rfl | assumption | exact Views.of_drop 1 (by assumption) | exact Views.of_drop 2 (by assumption) | exact Views.of_drop 3 (by assumption) | exact Views.of_drop 4 (by assumption) | exact Views.of_drop 5 (by assumption) | exact Views.of_drop 6 (by assumption) | exact Views.of_drop 7 (by assumption) | exact Views.of_drop 8 (by assumption) | exact Views.of_drop 9 (by assumption) | exact Views.of_drop 10 (by assumption) | exact Views.of_drop 11 (by assumption) | exact Views.of_drop 12 (by assumption)) h.2) rfl ?_)
    clear h a w; intro v40 a w hv40 h
    (try simp only [List.set_cons_zero, List.set_cons_succ] at h)
    have ho40 := Views.oneCell hv40 h.2
    refine wl rfl (op_alloc h K.z_api_Commit rfl ?_)
    clear h a w; intro b8 a w h
    refine wl rfl (op_stA h rfl rfl K.sz_api_Commit (cmC_len _ _ _) (cmC_one ho40 rfl) 0 rfl rfl ?_)
    clear h a w; intro a w h
    refine wnil (c_then ?_)
    refine c_meet h (X := Cm × Value) (fun _ => [(2, bv how), (4, .pointer (some ⟨b4, 0, none⟩)), (7, .pointer (some ⟨b7, 0, none⟩)), (8, .pointer (some ⟨b8, 0, none⟩))])
      (fun x => Blk b8 (.cells ⟨cmC x.1.chart x.2 (sv x.1.note)⟩ t_api_Commit) :: Blk b7 (.cells ⟨cmC (nearC c).chart v38 (sv (nearC c).note)⟩ t_api_Commit) :: Blk b4 (.cells ⟨cmC d.chart qw (sv d.note)⟩ t_api_Commit) :: Blk b3 (.cells ⟨cmC c.chart pv (sv c.note)⟩ t_api_Commit) :: F)
      (fun x => rightC x.1 = true ∧ Views (Blk b7 (.cells ⟨cmC (nearC c).chart v38 (sv (nearC c).note)⟩ t_api_Commit) :: Blk b4 (.cells ⟨cmC d.chart qw (sv d.note)⟩ t_api_Commit) :: Blk b3 (.cells ⟨cmC c.chart pv (sv c.note)⟩ t_api_Commit) :: F) 32 x.2 x.1.parents.length (x.1.parents.flatMap cellsA)) ?_ ?_
    ·
      refine c_seq (c_region ?_)
      refine wv h (r_move h rfl) rfl ?_
      clear h a w; intro a w h
      refine wv h (r_bin h rfl rfl (B.rem_u8 (y := 4) (by decide))) rfl ?_
      clear h a w; intro a w h
      refine wv h (r_bin h rfl rfl (B.eql_u8 (y := 1))) rfl ?_
      clear h a w; intro a w h
      refine wnil (c_then ?_)
      first
        | refine c_condD h rfl (fun ht2 => ?_) (fun ht2 => ?_)
        | refine c_condP h rfl (by first | (simp only [Bool.and_eq_true, Bool.or_eq_true, Bool.not_eq_true', decide_eq_true_eq, decide_eq_false_iff_not, ne_eq, Bool.not_eq_eq_eq_not, Bool.not_true, beq_iff_eq, bne_iff_ne]; exact Iff.rfl) | exact Iff.rfl) (fun ht2 => ?_) (fun ht2 => ?_)
      ·
        as_aux_lemma =>
          refine c_region ?_
          first
            | (refine wv h (r_ldA h rfl K.u_api_Commit rfl K.sz_api_Commit 0 rfl (by first | exact Row.len _ | rfl | assumption | (simp; done) | (simp; omega) | omega)) rfl ?_)
            | (refine wv h (r_ldA h rfl K.u_api_Commit rfl K.sz_api_Commit 1 rfl (by first | exact Row.len _ | rfl | assumption | (simp; done) | (simp; omega) | omega)) rfl ?_)
            | (refine wv h (r_ldA h rfl K.u_api_Commit rfl K.sz_api_Commit 2 rfl (by first | exact Row.len _ | rfl | assumption | (simp; done) | (simp; omega) | omega)) rfl ?_)
            | (refine wv h (r_ldA h rfl K.u_api_Commit rfl K.sz_api_Commit 3 rfl (by first | exact Row.len _ | rfl | assumption | (simp; done) | (simp; omega) | omega)) rfl ?_)
            | (refine wv h (r_ldA h rfl K.u_api_Commit rfl K.sz_api_Commit 4 rfl (by first | exact Row.len _ | rfl | assumption | (simp; done) | (simp; omega) | omega)) rfl ?_)
            | (refine wv h (r_ldA h rfl K.u_api_Commit rfl K.sz_api_Commit 5 rfl (by first | exact Row.len _ | rfl | assumption | (simp; done) | (simp; omega) | omega)) rfl ?_)
            | (refine wv h (r_loadCA h rfl K.u_api_Commit rfl K.sz_api_Commit (by assumption) (by first | rfl | assumption | (simp; done) | (simp; omega) | omega)) rfl ?_)
          clear h a w; intro a w h
          refine wl rfl (op_stA h rfl rfl K.sz_api_Commit (cmC_len _ _ _) (cmC_one ho38 rfl) 0 rfl (cmC_len _ _ _) ?_)
          clear h a w; intro a w h
          refine wnil ?_
          exact ⟨(nearC c, v38), h.keep [2, 4, 7, 8], near_right c, hv38.cons _⟩
      ·
        refine c_skip ?_
        exact ⟨(nearC d, v40), h.keep [2, 4, 7, 8], near_right d, hv40⟩
    ·
      clear h a w; intro z a w hz h
      obtain ⟨y, yv⟩ := z
      obtain ⟨hz1, hz2⟩ := hz
      dsimp only at hz1 hz2 h
      refine c_meet h (X := Cm × Value) (fun _ => [(7, .pointer (some ⟨b7, 0, none⟩)), (8, .pointer (some ⟨b8, 0, none⟩))])
        (fun x => Blk b8 (.cells ⟨cmC x.1.chart x.2 (sv x.1.note)⟩ t_api_Commit) :: Blk b7 (.cells ⟨cmC (nearC c).chart v38 (sv (nearC c).note)⟩ t_api_Commit) :: Blk b4 (.cells ⟨cmC d.chart qw (sv d.note)⟩ t_api_Commit) :: Blk b3 (.cells ⟨cmC c.chart pv (sv c.note)⟩ t_api_Commit) :: F)
        (fun x => rightC x.1 = true ∧ Views (Blk b7 (.cells ⟨cmC (nearC c).chart v38 (sv (nearC c).note)⟩ t_api_Commit) :: Blk b4 (.cells ⟨cmC d.chart qw (sv d.note)⟩ t_api_Commit) :: Blk b3 (.cells ⟨cmC c.chart pv (sv c.note)⟩ t_api_Commit) :: F) 32 x.2 x.1.parents.length (x.1.parents.flatMap cellsA)) ?_ ?_
      ·
        refine c_seq (c_region ?_)
        refine wv h (r_move h rfl) rfl ?_
        clear h a w; intro a w h
        refine wv h (r_bin h rfl rfl (B.rem_u8 (y := 4) (by decide))) rfl ?_
        clear h a w; intro a w h
        refine wv h (r_bin h rfl rfl (B.eql_u8 (y := 2))) rfl ?_
        clear h a w; intro a w h
        refine wnil (c_then ?_)
        first
          | refine c_condD h rfl (fun ht3 => ?_) (fun ht3 => ?_)
          | refine c_condP h rfl (by first | (simp only [Bool.and_eq_true, Bool.or_eq_true, Bool.not_eq_true', decide_eq_true_eq, decide_eq_false_iff_not, ne_eq, Bool.not_eq_eq_eq_not, Bool.not_true, beq_iff_eq, bne_iff_ne]; exact Iff.rfl) | exact Iff.rfl) (fun ht3 => ?_) (fun ht3 => ?_)
        ·
          as_aux_lemma =>
            refine c_seq (c_region ?_)
            first
              | (refine wv h (r_ldA h rfl K.u_api_Commit rfl K.sz_api_Commit 0 rfl (by first | exact Row.len _ | rfl | assumption | (simp; done) | (simp; omega) | omega)) rfl ?_)
              | (refine wv h (r_ldA h rfl K.u_api_Commit rfl K.sz_api_Commit 1 rfl (by first | exact Row.len _ | rfl | assumption | (simp; done) | (simp; omega) | omega)) rfl ?_)
              | (refine wv h (r_ldA h rfl K.u_api_Commit rfl K.sz_api_Commit 2 rfl (by first | exact Row.len _ | rfl | assumption | (simp; done) | (simp; omega) | omega)) rfl ?_)
              | (refine wv h (r_ldA h rfl K.u_api_Commit rfl K.sz_api_Commit 3 rfl (by first | exact Row.len _ | rfl | assumption | (simp; done) | (simp; omega) | omega)) rfl ?_)
              | (refine wv h (r_ldA h rfl K.u_api_Commit rfl K.sz_api_Commit 4 rfl (by first | exact Row.len _ | rfl | assumption | (simp; done) | (simp; omega) | omega)) rfl ?_)
              | (refine wv h (r_ldA h rfl K.u_api_Commit rfl K.sz_api_Commit 5 rfl (by first | exact Row.len _ | rfl | assumption | (simp; done) | (simp; omega) | omega)) rfl ?_)
              | (refine wv h (r_loadCA h rfl K.u_api_Commit rfl K.sz_api_Commit (by assumption) (by first | rfl | assumption | (simp; done) | (simp; omega) | omega)) rfl ?_)
            clear h a w; intro a w h
            refine wl rfl (op_stA h rfl rfl K.sz_api_Commit (cmC_len _ _ _) (cmC_one ho38 rfl) 0 rfl (cmC_len _ _ _) ?_)
            clear h a w; intro a w h
            refine wnil (c_then ?_)
            refine c_region ?_
            refine wv h (r_fieldAddr h 33 rfl K.u_api_Commit rfl K.sz_string rfl rfl) rfl ?_
            clear h a w; intro a w h
            first
              | (refine wv h (r_ldN h rfl K.u_string rfl 0 rfl rfl) rfl ?_)
              | (refine wv h (r_ldN h rfl K.u_string rfl 1 rfl rfl) rfl ?_)
              | (refine wv h (r_ldN h rfl K.u_string rfl 2 rfl rfl) rfl ?_)
              | (refine wv h (r_ldN h rfl K.u_string rfl 3 rfl rfl) rfl ?_)
              | (refine wv h (r_ldN h rfl K.u_string rfl 4 rfl rfl) rfl ?_)
              | (refine wv h (r_ldN h rfl K.u_string rfl 5 rfl rfl) rfl ?_)
              | (refine wv h (r_ldN h rfl K.u_string rfl 6 rfl rfl) rfl ?_)
              | (refine wv h (r_ldC (o := 33) h rfl K.u_string rfl 0 rfl) rfl ?_)
              | (refine wv h (r_ldC (o := 33) h rfl K.u_string rfl 1 rfl) rfl ?_)
              | (refine wv h (r_ldC (o := 33) h rfl K.u_string rfl 2 rfl) rfl ?_)
              | (refine wv h (r_ldC (o := 33) h rfl K.u_string rfl 3 rfl) rfl ?_)
              | (refine wv h (r_ldC (o := 33) h rfl K.u_string rfl 4 rfl) rfl ?_)
              | (refine wv h (r_ldC (o := 33) h rfl K.u_string rfl 5 rfl) rfl ?_)
              | (refine wv h (r_ldC (o := 33) h rfl K.u_string rfl 6 rfl) rfl ?_)
              | (refine wv h (r_load h rfl K.u_string rfl 0 rfl rfl) rfl ?_)
              | (refine wv h (r_load h rfl K.u_string rfl 1 rfl rfl) rfl ?_)
              | (refine wv h (r_load h rfl K.u_string rfl 2 rfl rfl) rfl ?_)
              | (refine wv h (r_load h rfl K.u_string rfl 3 rfl rfl) rfl ?_)
              | (refine wv h (r_load h rfl K.u_string rfl 4 rfl rfl) rfl ?_)
              | (refine wv h (r_load h rfl K.u_string rfl 5 rfl rfl) rfl ?_)
              | (refine wv h (r_load1 h rfl K.u_string rfl (by assumption)) rfl ?_)
            clear h a w; intro a w h
            refine wv h (r_fieldAddr h 33 rfl K.u_api_Commit rfl K.sz_string rfl rfl) rfl ?_
            clear h a w; intro a w h
            first
              | (refine wv h (r_ldN h rfl K.u_string rfl 0 rfl rfl) rfl ?_)
              | (refine wv h (r_ldN h rfl K.u_string rfl 1 rfl rfl) rfl ?_)
              | (refine wv h (r_ldN h rfl K.u_string rfl 2 rfl rfl) rfl ?_)
              | (refine wv h (r_ldN h rfl K.u_string rfl 3 rfl rfl) rfl ?_)
              | (refine wv h (r_ldN h rfl K.u_string rfl 4 rfl rfl) rfl ?_)
              | (refine wv h (r_ldN h rfl K.u_string rfl 5 rfl rfl) rfl ?_)
              | (refine wv h (r_ldN h rfl K.u_string rfl 6 rfl rfl) rfl ?_)
              | (refine wv h (r_ldC (o := 33) h rfl K.u_string rfl 0 rfl) rfl ?_)
              | (refine wv h (r_ldC (o := 33) h rfl K.u_string rfl 1 rfl) rfl ?_)
              | (refine wv h (r_ldC (o := 33) h rfl K.u_string rfl 2 rfl) rfl ?_)
              | (refine wv h (r_ldC (o := 33) h rfl K.u_string rfl 3 rfl) rfl ?_)
              | (refine wv h (r_ldC (o := 33) h rfl K.u_string rfl 4 rfl) rfl ?_)
              | (refine wv h (r_ldC (o := 33) h rfl K.u_string rfl 5 rfl) rfl ?_)
              | (refine wv h (r_ldC (o := 33) h rfl K.u_string rfl 6 rfl) rfl ?_)
              | (refine wv h (r_load h rfl K.u_string rfl 0 rfl rfl) rfl ?_)
              | (refine wv h (r_load h rfl K.u_string rfl 1 rfl rfl) rfl ?_)
              | (refine wv h (r_load h rfl K.u_string rfl 2 rfl rfl) rfl ?_)
              | (refine wv h (r_load h rfl K.u_string rfl 3 rfl rfl) rfl ?_)
              | (refine wv h (r_load h rfl K.u_string rfl 4 rfl rfl) rfl ?_)
              | (refine wv h (r_load h rfl K.u_string rfl 5 rfl rfl) rfl ?_)
              | (refine wv h (r_load1 h rfl K.u_string rfl (by assumption)) rfl ?_)
            clear h a w; intro a w h
            refine wv h (r_lenT h rfl K.u_string) rfl ?_
            clear h a w; intro a w h
            refine wv h (r_min2 h rfl rfl) rfl ?_
            clear h a w; intro a w h
            refine wv h (r_sliceT h rfl K.u_string _ _ Bnd.no (Bnd.of rfl (by omega)) (by first | omega | (simp only [List.length_cons, List.length_nil]; omega) | (simp; done) | (simp; omega)) (by first | omega | (simp only [List.length_cons, List.length_nil]; omega) | (simp; done) | (simp; omega))) rfl ?_
            clear h a w; intro a w h
            refine wv h (r_fieldAddr h 33 rfl K.u_api_Commit rfl K.sz_string rfl rfl) rfl ?_
            clear h a w; intro a w h
            first
              | (refine wl rfl (op_storeN h rfl rfl K.sz_string (by first | rfl | assumption | exact Views.oneCell (Views.own 0 rfl) h.2 | exact Views.oneCell (Views.own 1 rfl) h.2 | exact Views.oneCell (Views.own 2 rfl) h.2 | exact Views.oneCell (Views.own 3 rfl) h.2 | exact Views.oneCell (Views.own 4 rfl) h.2 | exact Views.oneCell (Views.own 5 rfl) h.2 | exact Views.oneCell (by assumption) h.2) 0 rfl rfl ?_))
              | (refine wl rfl (op_storeN h rfl rfl K.sz_string (by first | rfl | assumption | exact Views.oneCell (Views.own 0 rfl) h.2 | exact Views.oneCell (Views.own 1 rfl) h.2 | exact Views.oneCell (Views.own 2 rfl) h.2 | exact Views.oneCell (Views.own 3 rfl) h.2 | exact Views.oneCell (Views.own 4 rfl) h.2 | exact Views.oneCell (Views.own 5 rfl) h.2 | exact Views.oneCell (by assumption) h.2) 1 rfl rfl ?_))
              | (refine wl rfl (op_storeN h rfl rfl K.sz_string (by first | rfl | assumption | exact Views.oneCell (Views.own 0 rfl) h.2 | exact Views.oneCell (Views.own 1 rfl) h.2 | exact Views.oneCell (Views.own 2 rfl) h.2 | exact Views.oneCell (Views.own 3 rfl) h.2 | exact Views.oneCell (Views.own 4 rfl) h.2 | exact Views.oneCell (Views.own 5 rfl) h.2 | exact Views.oneCell (by assumption) h.2) 2 rfl rfl ?_))
              | (refine wl rfl (op_storeN h rfl rfl K.sz_string (by first | rfl | assumption | exact Views.oneCell (Views.own 0 rfl) h.2 | exact Views.oneCell (Views.own 1 rfl) h.2 | exact Views.oneCell (Views.own 2 rfl) h.2 | exact Views.oneCell (Views.own 3 rfl) h.2 | exact Views.oneCell (Views.own 4 rfl) h.2 | exact Views.oneCell (Views.own 5 rfl) h.2 | exact Views.oneCell (by assumption) h.2) 3 rfl rfl ?_))
              | (refine wl rfl (op_storeN h rfl rfl K.sz_string (by first | rfl | assumption | exact Views.oneCell (Views.own 0 rfl) h.2 | exact Views.oneCell (Views.own 1 rfl) h.2 | exact Views.oneCell (Views.own 2 rfl) h.2 | exact Views.oneCell (Views.own 3 rfl) h.2 | exact Views.oneCell (Views.own 4 rfl) h.2 | exact Views.oneCell (Views.own 5 rfl) h.2 | exact Views.oneCell (by assumption) h.2) 4 rfl rfl ?_))
              | (refine wl rfl (op_storeN h rfl rfl K.sz_string (by first | rfl | assumption | exact Views.oneCell (Views.own 0 rfl) h.2 | exact Views.oneCell (Views.own 1 rfl) h.2 | exact Views.oneCell (Views.own 2 rfl) h.2 | exact Views.oneCell (Views.own 3 rfl) h.2 | exact Views.oneCell (Views.own 4 rfl) h.2 | exact Views.oneCell (Views.own 5 rfl) h.2 | exact Views.oneCell (by assumption) h.2) 5 rfl rfl ?_))
              | (refine wl rfl (op_storeN h rfl rfl K.sz_string (by first | rfl | assumption | exact Views.oneCell (Views.own 0 rfl) h.2 | exact Views.oneCell (Views.own 1 rfl) h.2 | exact Views.oneCell (Views.own 2 rfl) h.2 | exact Views.oneCell (Views.own 3 rfl) h.2 | exact Views.oneCell (Views.own 4 rfl) h.2 | exact Views.oneCell (Views.own 5 rfl) h.2 | exact Views.oneCell (by assumption) h.2) 6 rfl rfl ?_))
              | (refine wl rfl (op_storeC (o := 33) h rfl rfl K.sz_string (by first | rfl | assumption | exact Views.oneCell (Views.own 0 rfl) h.2 | exact Views.oneCell (Views.own 1 rfl) h.2 | exact Views.oneCell (Views.own 2 rfl) h.2 | exact Views.oneCell (Views.own 3 rfl) h.2 | exact Views.oneCell (Views.own 4 rfl) h.2 | exact Views.oneCell (Views.own 5 rfl) h.2 | exact Views.oneCell (by assumption) h.2) 0 rfl ?_))
              | (refine wl rfl (op_storeC (o := 33) h rfl rfl K.sz_string (by first | rfl | assumption | exact Views.oneCell (Views.own 0 rfl) h.2 | exact Views.oneCell (Views.own 1 rfl) h.2 | exact Views.oneCell (Views.own 2 rfl) h.2 | exact Views.oneCell (Views.own 3 rfl) h.2 | exact Views.oneCell (Views.own 4 rfl) h.2 | exact Views.oneCell (Views.own 5 rfl) h.2 | exact Views.oneCell (by assumption) h.2) 1 rfl ?_))
              | (refine wl rfl (op_storeC (o := 33) h rfl rfl K.sz_string (by first | rfl | assumption | exact Views.oneCell (Views.own 0 rfl) h.2 | exact Views.oneCell (Views.own 1 rfl) h.2 | exact Views.oneCell (Views.own 2 rfl) h.2 | exact Views.oneCell (Views.own 3 rfl) h.2 | exact Views.oneCell (Views.own 4 rfl) h.2 | exact Views.oneCell (Views.own 5 rfl) h.2 | exact Views.oneCell (by assumption) h.2) 2 rfl ?_))
              | (refine wl rfl (op_storeC (o := 33) h rfl rfl K.sz_string (by first | rfl | assumption | exact Views.oneCell (Views.own 0 rfl) h.2 | exact Views.oneCell (Views.own 1 rfl) h.2 | exact Views.oneCell (Views.own 2 rfl) h.2 | exact Views.oneCell (Views.own 3 rfl) h.2 | exact Views.oneCell (Views.own 4 rfl) h.2 | exact Views.oneCell (Views.own 5 rfl) h.2 | exact Views.oneCell (by assumption) h.2) 3 rfl ?_))
              | (refine wl rfl (op_storeC (o := 33) h rfl rfl K.sz_string (by first | rfl | assumption | exact Views.oneCell (Views.own 0 rfl) h.2 | exact Views.oneCell (Views.own 1 rfl) h.2 | exact Views.oneCell (Views.own 2 rfl) h.2 | exact Views.oneCell (Views.own 3 rfl) h.2 | exact Views.oneCell (Views.own 4 rfl) h.2 | exact Views.oneCell (Views.own 5 rfl) h.2 | exact Views.oneCell (by assumption) h.2) 4 rfl ?_))
              | (refine wl rfl (op_storeC (o := 33) h rfl rfl K.sz_string (by first | rfl | assumption | exact Views.oneCell (Views.own 0 rfl) h.2 | exact Views.oneCell (Views.own 1 rfl) h.2 | exact Views.oneCell (Views.own 2 rfl) h.2 | exact Views.oneCell (Views.own 3 rfl) h.2 | exact Views.oneCell (Views.own 4 rfl) h.2 | exact Views.oneCell (Views.own 5 rfl) h.2 | exact Views.oneCell (by assumption) h.2) 5 rfl ?_))
              | (refine wl rfl (op_storeC (o := 33) h rfl rfl K.sz_string (by first | rfl | assumption | exact Views.oneCell (Views.own 0 rfl) h.2 | exact Views.oneCell (Views.own 1 rfl) h.2 | exact Views.oneCell (Views.own 2 rfl) h.2 | exact Views.oneCell (Views.own 3 rfl) h.2 | exact Views.oneCell (Views.own 4 rfl) h.2 | exact Views.oneCell (Views.own 5 rfl) h.2 | exact Views.oneCell (by assumption) h.2) 6 rfl ?_))
            clear h a w; intro a w h
            (try simp only [List.set_cons_zero, List.set_cons_succ] at h)
            refine wnil ?_
            exact ⟨(⟨(nearC c).chart, (nearC c).parents, (d.note.drop 0).take (min d.note.length 30 - 0)⟩, v38), h.keep [7, 8], near_note c d, hv38.cons _⟩
        ·
          refine c_skip ?_
          exact ⟨(y, yv), h.keep [7, 8], hz1, hz2⟩
      ·
        clear h a w; intro z a w hz h
        obtain ⟨y, yv⟩ := z
        obtain ⟨hy1, hy2⟩ := hz
        dsimp only at hy1 hy2 h
        refine c_seq (c_region ?_)
        first
          | (refine wv h (r_ldA h rfl K.u_api_Commit rfl K.sz_api_Commit 0 rfl (by first | exact Row.len _ | rfl | assumption | (simp; done) | (simp; omega) | omega)) rfl ?_)
          | (refine wv h (r_ldA h rfl K.u_api_Commit rfl K.sz_api_Commit 1 rfl (by first | exact Row.len _ | rfl | assumption | (simp; done) | (simp; omega) | omega)) rfl ?_)
          | (refine wv h (r_ldA h rfl K.u_api_Commit rfl K.sz_api_Commit 2 rfl (by first | exact Row.len _ | rfl | assumption | (simp; done) | (simp; omega) | omega)) rfl ?_)
          | (refine wv h (r_ldA h rfl K.u_api_Commit rfl K.sz_api_Commit 3 rfl (by first | exact Row.len _ | rfl | assumption | (simp; done) | (simp; omega) | omega)) rfl ?_)
          | (refine wv h (r_ldA h rfl K.u_api_Commit rfl K.sz_api_Commit 4 rfl (by first | exact Row.len _ | rfl | assumption | (simp; done) | (simp; omega) | omega)) rfl ?_)
          | (refine wv h (r_ldA h rfl K.u_api_Commit rfl K.sz_api_Commit 5 rfl (by first | exact Row.len _ | rfl | assumption | (simp; done) | (simp; omega) | omega)) rfl ?_)
          | (refine wv h (r_loadCA h rfl K.u_api_Commit rfl K.sz_api_Commit (by assumption) (by first | rfl | assumption | (simp; done) | (simp; omega) | omega)) rfl ?_)
        clear h a w; intro a w h
        first
          | (refine wv h (r_ldA h rfl K.u_api_Commit rfl K.sz_api_Commit 0 rfl (by first | exact Row.len _ | rfl | assumption | (simp; done) | (simp; omega) | omega)) rfl ?_)
          | (refine wv h (r_ldA h rfl K.u_api_Commit rfl K.sz_api_Commit 1 rfl (by first | exact Row.len _ | rfl | assumption | (simp; done) | (simp; omega) | omega)) rfl ?_)
          | (refine wv h (r_ldA h rfl K.u_api_Commit rfl K.sz_api_Commit 2 rfl (by first | exact Row.len _ | rfl | assumption | (simp; done) | (simp; omega) | omega)) rfl ?_)
          | (refine wv h (r_ldA h rfl K.u_api_Commit rfl K.sz_api_Commit 3 rfl (by first | exact Row.len _ | rfl | assumption | (simp; done) | (simp; omega) | omega)) rfl ?_)
          | (refine wv h (r_ldA h rfl K.u_api_Commit rfl K.sz_api_Commit 4 rfl (by first | exact Row.len _ | rfl | assumption | (simp; done) | (simp; omega) | omega)) rfl ?_)
          | (refine wv h (r_ldA h rfl K.u_api_Commit rfl K.sz_api_Commit 5 rfl (by first | exact Row.len _ | rfl | assumption | (simp; done) | (simp; omega) | omega)) rfl ?_)
          | (refine wv h (r_loadCA h rfl K.u_api_Commit rfl K.sz_api_Commit (by assumption) (by first | rfl | assumption | (simp; done) | (simp; omega) | omega)) rfl ?_)
        clear h a w; intro a w h
        refine wl rfl (op_call h rfl K.go_ref15_Same (ref_Same s _ (nearC c) y v38 yv _ (by first | exact Views.own 0 rfl | exact Views.own 1 rfl | exact Views.own 2 rfl | exact Views.own 3 rfl | exact Views.own 4 rfl | exact Views.own 5 rfl | assumption | exact Views.of_drop 1 (by assumption) | exact Views.of_drop 2 (by assumption) | exact Views.of_drop 3 (by assumption) | exact Views.of_drop 4 (by assumption) | exact Views.of_drop 5 (by assumption) | exact Views.of_drop 6 (by assumption) | exact Views.of_drop 7 (by assumption) | exact Views.of_drop 8 (by assumption) | exact Views.of_drop 9 (by assumption) | exact Views.of_drop 10 (by assumption) | exact Views.of_drop 11 (by assumption) | exact Views.of_drop 12 (by assumption)) (by first | exact Views.own 0 rfl | exact Views.own 1 rfl | exact Views.own 2 rfl | exact Views.own 3 rfl | exact Views.own 4 rfl | exact Views.own 5 rfl | assumption | exact Views.of_drop 1 (by assumption) | exact Views.of_drop 2 (by assumption) | exact Views.of_drop 3 (by assumption) | exact Views.of_drop 4 (by assumption) | exact Views.of_drop 5 (by assumption) | exact Views.of_drop 6 (by assumption) | exact Views.of_drop 7 (by assumption) | exact Views.of_drop 8 (by assumption) | exact Views.of_drop 9 (by assumption) | exact Views.of_drop 10 (by assumption) | exact Views.of_drop 11 (by assumption) | exact Views.of_drop 12 (by assumption)) h.2) rfl ?_)
        clear h a w; intro x a w hx h
        (try simp only [List.set_cons_zero, List.set_cons_succ] at h)
        refine wv h (r_assign h rfl) rfl ?_
        clear h a w; intro a w h
        refine wnil (c_then ?_)
        refine c_seq (c_draw K.mixed (by kernel_rfl) h ?_)
        clear h a w; intro a hE
        first
          | (refine qv hE (fun w hw => r_ldA ⟨hE, hw⟩ rfl K.u_api_Commit rfl K.sz_api_Commit 0 rfl (by first | exact Row.len _ | rfl | assumption | (simp; done) | (simp; omega) | omega)) rfl ?_)
          | (refine qv hE (fun w hw => r_ldA ⟨hE, hw⟩ rfl K.u_api_Commit rfl K.sz_api_Commit 1 rfl (by first | exact Row.len _ | rfl | assumption | (simp; done) | (simp; omega) | omega)) rfl ?_)
          | (refine qv hE (fun w hw => r_ldA ⟨hE, hw⟩ rfl K.u_api_Commit rfl K.sz_api_Commit 2 rfl (by first | exact Row.len _ | rfl | assumption | (simp; done) | (simp; omega) | omega)) rfl ?_)
          | (refine qv hE (fun w hw => r_ldA ⟨hE, hw⟩ rfl K.u_api_Commit rfl K.sz_api_Commit 3 rfl (by first | exact Row.len _ | rfl | assumption | (simp; done) | (simp; omega) | omega)) rfl ?_)
          | (refine qv hE (fun w hw => r_ldA ⟨hE, hw⟩ rfl K.u_api_Commit rfl K.sz_api_Commit 4 rfl (by first | exact Row.len _ | rfl | assumption | (simp; done) | (simp; omega) | omega)) rfl ?_)
          | (refine qv hE (fun w hw => r_ldA ⟨hE, hw⟩ rfl K.u_api_Commit rfl K.sz_api_Commit 5 rfl (by first | exact Row.len _ | rfl | assumption | (simp; done) | (simp; omega) | omega)) rfl ?_)
          | (refine qv hE (fun w hw => r_loadCA ⟨hE, hw⟩ rfl K.u_api_Commit rfl K.sz_api_Commit (by assumption) (by first | rfl | assumption | (simp; done) | (simp; omega) | omega)) rfl ?_)
        clear hE a; intro a hE
        first
          | (refine qv hE (fun w hw => r_ldA ⟨hE, hw⟩ rfl K.u_api_Commit rfl K.sz_api_Commit 0 rfl (by first | exact Row.len _ | rfl | assumption | (simp; done) | (simp; omega) | omega)) rfl ?_)
          | (refine qv hE (fun w hw => r_ldA ⟨hE, hw⟩ rfl K.u_api_Commit rfl K.sz_api_Commit 1 rfl (by first | exact Row.len _ | rfl | assumption | (simp; done) | (simp; omega) | omega)) rfl ?_)
          | (refine qv hE (fun w hw => r_ldA ⟨hE, hw⟩ rfl K.u_api_Commit rfl K.sz_api_Commit 2 rfl (by first | exact Row.len _ | rfl | assumption | (simp; done) | (simp; omega) | omega)) rfl ?_)
          | (refine qv hE (fun w hw => r_ldA ⟨hE, hw⟩ rfl K.u_api_Commit rfl K.sz_api_Commit 3 rfl (by first | exact Row.len _ | rfl | assumption | (simp; done) | (simp; omega) | omega)) rfl ?_)
          | (refine qv hE (fun w hw => r_ldA ⟨hE, hw⟩ rfl K.u_api_Commit rfl K.sz_api_Commit 4 rfl (by first | exact Row.len _ | rfl | assumption | (simp; done) | (simp; omega) | omega)) rfl ?_)
          | (refine qv hE (fun w hw => r_ldA ⟨hE, hw⟩ rfl K.u_api_Commit rfl K.sz_api_Commit 5 rfl (by first | exact Row.len _ | rfl | assumption | (simp; done) | (simp; omega) | omega)) rfl ?_)
          | (refine qv hE (fun w hw => r_loadCA ⟨hE, hw⟩ rfl K.u_api_Commit rfl K.sz_api_Commit (by assumption) (by first | rfl | assumption | (simp; done) | (simp; omega) | omega)) rfl ?_)
        clear hE a; intro a hE
        refine q_c hE rfl K.go_commit_Equal (fun w hw => commit_Equal s _ (nearC c) y v38 yv _ (by first | exact Views.own 0 rfl | exact Views.own 1 rfl | exact Views.own 2 rfl | exact Views.own 3 rfl | exact Views.own 4 rfl | exact Views.own 5 rfl | assumption | exact Views.of_drop 1 (by assumption) | exact Views.of_drop 2 (by assumption) | exact Views.of_drop 3 (by assumption) | exact Views.of_drop 4 (by assumption) | exact Views.of_drop 5 (by assumption) | exact Views.of_drop 6 (by assumption) | exact Views.of_drop 7 (by assumption) | exact Views.of_drop 8 (by assumption) | exact Views.of_drop 9 (by assumption) | exact Views.of_drop 10 (by assumption) | exact Views.of_drop 11 (by assumption) | exact Views.of_drop 12 (by assumption)) (by first | exact Views.own 0 rfl | exact Views.own 1 rfl | exact Views.own 2 rfl | exact Views.own 3 rfl | exact Views.own 4 rfl | exact Views.own 5 rfl | assumption | exact Views.of_drop 1 (by assumption) | exact Views.of_drop 2 (by assumption) | exact Views.of_drop 3 (by assumption) | exact Views.of_drop 4 (by assumption) | exact Views.of_drop 5 (by assumption) | exact Views.of_drop 6 (by assumption) | exact Views.of_drop 7 (by assumption) | exact Views.of_drop 8 (by assumption) | exact Views.of_drop 9 (by assumption) | exact Views.of_drop 10 (by assumption) | exact Views.of_drop 11 (by assumption) | exact Views.of_drop 12 (by assumption)) hw) rfl ?_
        clear hE a; intro a hE
        refine qv hE (fun w hw => r_move ⟨hE, hw⟩ rfl) rfl ?_
        clear hE a; intro a hE
        refine qv hE (fun w hw => r_booleq ⟨hE, hw⟩ K.u_bool rfl rfl) rfl ?_
        clear hE a; intro a hE
        refine qv hE (fun w hw => r_move ⟨hE, hw⟩ rfl) rfl ?_
        clear hE a; intro a hE
        refine qvG hE (by first | exact .t rfl | exact .f rfl | exact .gt rfl | exact .gf rfl) (fun hg w hw => by (try simp only [↓gval_on hg, ↓gval_and hg] at hE); (have hg2 := hg; (try simp only [Bool.and_eq_true, Bool.or_eq_true, Bool.not_eq_true', decide_eq_true_eq, decide_eq_false_iff_not] at hg2)); first | exact r_ldA ⟨hE, hw⟩ rfl K.u_api_Commit rfl K.sz_api_Commit 0 rfl (by first | exact Row.len _ | rfl | assumption | (simp; done) | (simp; omega) | omega) | exact r_ldA ⟨hE, hw⟩ rfl K.u_api_Commit rfl K.sz_api_Commit 1 rfl (by first | exact Row.len _ | rfl | assumption | (simp; done) | (simp; omega) | omega) | exact r_ldA ⟨hE, hw⟩ rfl K.u_api_Commit rfl K.sz_api_Commit 2 rfl (by first | exact Row.len _ | rfl | assumption | (simp; done) | (simp; omega) | omega) | exact r_ldA ⟨hE, hw⟩ rfl K.u_api_Commit rfl K.sz_api_Commit 3 rfl (by first | exact Row.len _ | rfl | assumption | (simp; done) | (simp; omega) | omega) | exact r_ldA ⟨hE, hw⟩ rfl K.u_api_Commit rfl K.sz_api_Commit 4 rfl (by first | exact Row.len _ | rfl | assumption | (simp; done) | (simp; omega) | omega) | exact r_ldA ⟨hE, hw⟩ rfl K.u_api_Commit rfl K.sz_api_Commit 5 rfl (by first | exact Row.len _ | rfl | assumption | (simp; done) | (simp; omega) | omega) | exact r_loadCA ⟨hE, hw⟩ rfl K.u_api_Commit rfl K.sz_api_Commit (by assumption) (by first | rfl | assumption | (simp; done) | (simp; omega) | omega)) rfl ?_
        clear hE a; intro a hE
        refine qvG hE (by first | exact .t rfl | exact .f rfl | exact .gt rfl | exact .gf rfl) (fun hg w hw => by (try simp only [↓gval_on hg, ↓gval_and hg] at hE); (have hg2 := hg; (try simp only [Bool.and_eq_true, Bool.or_eq_true, Bool.not_eq_true', decide_eq_true_eq, decide_eq_false_iff_not] at hg2)); first | exact r_ldA ⟨hE, hw⟩ rfl K.u_api_Commit rfl K.sz_api_Commit 0 rfl (by first | exact Row.len _ | rfl | assumption | (simp; done) | (simp; omega) | omega) | exact r_ldA ⟨hE, hw⟩ rfl K.u_api_Commit rfl K.sz_api_Commit 1 rfl (by first | exact Row.len _ | rfl | assumption | (simp; done) | (simp; omega) | omega) | exact r_ldA ⟨hE, hw⟩ rfl K.u_api_Commit rfl K.sz_api_Commit 2 rfl (by first | exact Row.len _ | rfl | assumption | (simp; done) | (simp; omega) | omega) | exact r_ldA ⟨hE, hw⟩ rfl K.u_api_Commit rfl K.sz_api_Commit 3 rfl (by first | exact Row.len _ | rfl | assumption | (simp; done) | (simp; omega) | omega) | exact r_ldA ⟨hE, hw⟩ rfl K.u_api_Commit rfl K.sz_api_Commit 4 rfl (by first | exact Row.len _ | rfl | assumption | (simp; done) | (simp; omega) | omega) | exact r_ldA ⟨hE, hw⟩ rfl K.u_api_Commit rfl K.sz_api_Commit 5 rfl (by first | exact Row.len _ | rfl | assumption | (simp; done) | (simp; omega) | omega) | exact r_loadCA ⟨hE, hw⟩ rfl K.u_api_Commit rfl K.sz_api_Commit (by assumption) (by first | rfl | assumption | (simp; done) | (simp; omega) | omega)) rfl ?_
        clear hE a; intro a hE
        refine q_cG hE (by first | exact .t rfl | exact .f rfl | exact .gt rfl | exact .gf rfl) K.go_commit_Equal (fun hg => by (try simp only [↓gval_on hg, ↓gval_and hg]); (have hg2 := hg; (try simp only [Bool.and_eq_true, Bool.or_eq_true, Bool.not_eq_true', decide_eq_true_eq, decide_eq_false_iff_not] at hg2)); exact ⟨_, rfl, fun w hw => commit_Equal s _ (nearC c) (nearC c) v38 v38 _ (by first | exact Views.own 0 rfl | exact Views.own 1 rfl | exact Views.own 2 rfl | exact Views.own 3 rfl | exact Views.own 4 rfl | exact Views.own 5 rfl | assumption | exact Views.of_drop 1 (by assumption) | exact Views.of_drop 2 (by assumption) | exact Views.of_drop 3 (by assumption) | exact Views.of_drop 4 (by assumption) | exact Views.of_drop 5 (by assumption) | exact Views.of_drop 6 (by assumption) | exact Views.of_drop 7 (by assumption) | exact Views.of_drop 8 (by assumption) | exact Views.of_drop 9 (by assumption) | exact Views.of_drop 10 (by assumption) | exact Views.of_drop 11 (by assumption) | exact Views.of_drop 12 (by assumption)) (by first | exact Views.own 0 rfl | exact Views.own 1 rfl | exact Views.own 2 rfl | exact Views.own 3 rfl | exact Views.own 4 rfl | exact Views.own 5 rfl | assumption | exact Views.of_drop 1 (by assumption) | exact Views.of_drop 2 (by assumption) | exact Views.of_drop 3 (by assumption) | exact Views.of_drop 4 (by assumption) | exact Views.of_drop 5 (by assumption) | exact Views.of_drop 6 (by assumption) | exact Views.of_drop 7 (by assumption) | exact Views.of_drop 8 (by assumption) | exact Views.of_drop 9 (by assumption) | exact Views.of_drop 10 (by assumption) | exact Views.of_drop 11 (by assumption) | exact Views.of_drop 12 (by assumption)) hw⟩) rfl ?_
        clear hE a; intro a hE
        first
          | (refine qv hE (fun w hw => r_pickA ⟨hE, hw⟩ rfl rfl rfl) rfl ?_)
          | (refine qv hE (fun w hw => r_pickO ⟨hE, hw⟩ rfl rfl rfl) rfl ?_)
          | (refine qv hE (fun w hw => r_pick_true ⟨hE, hw⟩ rfl rfl) rfl ?_)
          | (refine qv hE (fun w hw => r_pick_false ⟨hE, hw⟩ rfl rfl) rfl ?_)
          | (refine qv hE (fun w hw => r_pick ⟨hE, hw⟩ rfl rfl rfl) rfl ?_)
        clear hE a; intro a hE
        refine qv hE (fun w hw => r_move ⟨hE, hw⟩ rfl) rfl ?_
        clear hE a; intro a hE
        refine qvG hE (by first | exact .t rfl | exact .f rfl | exact .gt rfl | exact .gf rfl) (fun hg w hw => by (try simp only [↓gval_on hg, ↓gval_and hg] at hE); (have hg2 := hg; (try simp only [Bool.and_eq_true, Bool.or_eq_true, Bool.not_eq_true', decide_eq_true_eq, decide_eq_false_iff_not] at hg2)); first | exact r_move ⟨hE, hw⟩ rfl) rfl ?_
        clear hE a; intro a hE
        refine qvG hE (by first | exact .t rfl | exact .f rfl | exact .gt rfl | exact .gf rfl) (fun hg w hw => by (try simp only [↓gval_on hg, ↓gval_and hg] at hE); (have hg2 := hg; (try simp only [Bool.and_eq_true, Bool.or_eq_true, Bool.not_eq_true', decide_eq_true_eq, decide_eq_false_iff_not] at hg2)); first | exact r_not ⟨hE, hw⟩ rfl) rfl ?_
        clear hE a; intro a hE
        refine qvG hE (by first | exact .t rfl | exact .f rfl | exact .gt rfl | exact .gf rfl) (fun hg w hw => by (try simp only [↓gval_on hg, ↓gval_and hg] at hE); (have hg2 := hg; (try simp only [Bool.and_eq_true, Bool.or_eq_true, Bool.not_eq_true', decide_eq_true_eq, decide_eq_false_iff_not] at hg2)); first | exact r_move ⟨hE, hw⟩ rfl) rfl ?_
        clear hE a; intro a hE
        refine qvG hE (by first | exact .t rfl | exact .f rfl | exact .gt rfl | exact .gf rfl) (fun hg w hw => by (try simp only [↓gval_on hg, ↓gval_and hg] at hE); (have hg2 := hg; (try simp only [Bool.and_eq_true, Bool.or_eq_true, Bool.not_eq_true', decide_eq_true_eq, decide_eq_false_iff_not] at hg2)); first | exact r_ldA ⟨hE, hw⟩ rfl K.u_api_Commit rfl K.sz_api_Commit 0 rfl (by first | exact Row.len _ | rfl | assumption | (simp; done) | (simp; omega) | omega) | exact r_ldA ⟨hE, hw⟩ rfl K.u_api_Commit rfl K.sz_api_Commit 1 rfl (by first | exact Row.len _ | rfl | assumption | (simp; done) | (simp; omega) | omega) | exact r_ldA ⟨hE, hw⟩ rfl K.u_api_Commit rfl K.sz_api_Commit 2 rfl (by first | exact Row.len _ | rfl | assumption | (simp; done) | (simp; omega) | omega) | exact r_ldA ⟨hE, hw⟩ rfl K.u_api_Commit rfl K.sz_api_Commit 3 rfl (by first | exact Row.len _ | rfl | assumption | (simp; done) | (simp; omega) | omega) | exact r_ldA ⟨hE, hw⟩ rfl K.u_api_Commit rfl K.sz_api_Commit 4 rfl (by first | exact Row.len _ | rfl | assumption | (simp; done) | (simp; omega) | omega) | exact r_ldA ⟨hE, hw⟩ rfl K.u_api_Commit rfl K.sz_api_Commit 5 rfl (by first | exact Row.len _ | rfl | assumption | (simp; done) | (simp; omega) | omega) | exact r_loadCA ⟨hE, hw⟩ rfl K.u_api_Commit rfl K.sz_api_Commit (by assumption) (by first | rfl | assumption | (simp; done) | (simp; omega) | omega)) rfl ?_
        clear hE a; intro a hE
        refine q_cG hE (by first | exact .t rfl | exact .f rfl | exact .gt rfl | exact .gf rfl) K.go_commit_Key (fun hg => by (try simp only [↓gval_on hg, ↓gval_and hg]); (have hg2 := hg; (try simp only [Bool.and_eq_true, Bool.or_eq_true, Bool.not_eq_true', decide_eq_true_eq, decide_eq_false_iff_not] at hg2)); exact ⟨_, rfl, fun w hw => commit_Key s _ (nearC c) v38 _ (near_right c) (by first | assumption | exact CellsAt.of_drop 1 (by assumption) | exact CellsAt.of_drop 2 (by assumption) | exact CellsAt.of_drop 3 (by assumption) | exact CellsAt.of_drop 4 (by assumption) | exact CellsAt.of_drop 5 (by assumption) | exact CellsAt.of_drop 6 (by assumption) | exact CellsAt.of_drop 7 (by assumption) | exact CellsAt.of_drop 8 (by assumption) | exact CellsAt.of_drop 9 (by assumption) | exact CellsAt.of_drop 10 (by assumption) | exact CellsAt.of_drop 11 (by assumption) | exact CellsAt.of_drop 12 (by assumption)) (by first | assumption | exact CellsAt.of_drop 1 (by assumption) | exact CellsAt.of_drop 2 (by assumption) | exact CellsAt.of_drop 3 (by assumption) | exact CellsAt.of_drop 4 (by assumption) | exact CellsAt.of_drop 5 (by assumption) | exact CellsAt.of_drop 6 (by assumption) | exact CellsAt.of_drop 7 (by assumption) | exact CellsAt.of_drop 8 (by assumption) | exact CellsAt.of_drop 9 (by assumption) | exact CellsAt.of_drop 10 (by assumption) | exact CellsAt.of_drop 11 (by assumption) | exact CellsAt.of_drop 12 (by assumption)) (by first | exact Views.own 0 rfl | exact Views.own 1 rfl | exact Views.own 2 rfl | exact Views.own 3 rfl | exact Views.own 4 rfl | exact Views.own 5 rfl | assumption | exact Views.of_drop 1 (by assumption) | exact Views.of_drop 2 (by assumption) | exact Views.of_drop 3 (by assumption) | exact Views.of_drop 4 (by assumption) | exact Views.of_drop 5 (by assumption) | exact Views.of_drop 6 (by assumption) | exact Views.of_drop 7 (by assumption) | exact Views.of_drop 8 (by assumption) | exact Views.of_drop 9 (by assumption) | exact Views.of_drop 10 (by assumption) | exact Views.of_drop 11 (by assumption) | exact Views.of_drop 12 (by assumption)) hw⟩) rfl ?_
        clear hE a; intro a hE
        refine qvG hE (by first | exact .t rfl | exact .f rfl | exact .gt rfl | exact .gf rfl) (fun hg w hw => by (try simp only [↓gval_on hg, ↓gval_and hg] at hE); (have hg2 := hg; (try simp only [Bool.and_eq_true, Bool.or_eq_true, Bool.not_eq_true', decide_eq_true_eq, decide_eq_false_iff_not] at hg2)); first | exact r_ldA ⟨hE, hw⟩ rfl K.u_api_Commit rfl K.sz_api_Commit 0 rfl (by first | exact Row.len _ | rfl | assumption | (simp; done) | (simp; omega) | omega) | exact r_ldA ⟨hE, hw⟩ rfl K.u_api_Commit rfl K.sz_api_Commit 1 rfl (by first | exact Row.len _ | rfl | assumption | (simp; done) | (simp; omega) | omega) | exact r_ldA ⟨hE, hw⟩ rfl K.u_api_Commit rfl K.sz_api_Commit 2 rfl (by first | exact Row.len _ | rfl | assumption | (simp; done) | (simp; omega) | omega) | exact r_ldA ⟨hE, hw⟩ rfl K.u_api_Commit rfl K.sz_api_Commit 3 rfl (by first | exact Row.len _ | rfl | assumption | (simp; done) | (simp; omega) | omega) | exact r_ldA ⟨hE, hw⟩ rfl K.u_api_Commit rfl K.sz_api_Commit 4 rfl (by first | exact Row.len _ | rfl | assumption | (simp; done) | (simp; omega) | omega) | exact r_ldA ⟨hE, hw⟩ rfl K.u_api_Commit rfl K.sz_api_Commit 5 rfl (by first | exact Row.len _ | rfl | assumption | (simp; done) | (simp; omega) | omega) | exact r_loadCA ⟨hE, hw⟩ rfl K.u_api_Commit rfl K.sz_api_Commit (by assumption) (by first | rfl | assumption | (simp; done) | (simp; omega) | omega)) rfl ?_
        clear hE a; intro a hE
        refine q_cG hE (by first | exact .t rfl | exact .f rfl | exact .gt rfl | exact .gf rfl) K.go_commit_Key (fun hg => by (try simp only [↓gval_on hg, ↓gval_and hg]); (have hg2 := hg; (try simp only [Bool.and_eq_true, Bool.or_eq_true, Bool.not_eq_true', decide_eq_true_eq, decide_eq_false_iff_not] at hg2)); exact ⟨_, rfl, fun w hw => commit_Key s _ y yv _ hy1 (by first | assumption | exact CellsAt.of_drop 1 (by assumption) | exact CellsAt.of_drop 2 (by assumption) | exact CellsAt.of_drop 3 (by assumption) | exact CellsAt.of_drop 4 (by assumption) | exact CellsAt.of_drop 5 (by assumption) | exact CellsAt.of_drop 6 (by assumption) | exact CellsAt.of_drop 7 (by assumption) | exact CellsAt.of_drop 8 (by assumption) | exact CellsAt.of_drop 9 (by assumption) | exact CellsAt.of_drop 10 (by assumption) | exact CellsAt.of_drop 11 (by assumption) | exact CellsAt.of_drop 12 (by assumption)) (by first | assumption | exact CellsAt.of_drop 1 (by assumption) | exact CellsAt.of_drop 2 (by assumption) | exact CellsAt.of_drop 3 (by assumption) | exact CellsAt.of_drop 4 (by assumption) | exact CellsAt.of_drop 5 (by assumption) | exact CellsAt.of_drop 6 (by assumption) | exact CellsAt.of_drop 7 (by assumption) | exact CellsAt.of_drop 8 (by assumption) | exact CellsAt.of_drop 9 (by assumption) | exact CellsAt.of_drop 10 (by assumption) | exact CellsAt.of_drop 11 (by assumption) | exact CellsAt.of_drop 12 (by assumption)) (by first | exact Views.own 0 rfl | exact Views.own 1 rfl | exact Views.own 2 rfl | exact Views.own 3 rfl | exact Views.own 4 rfl | exact Views.own 5 rfl | assumption | exact Views.of_drop 1 (by assumption) | exact Views.of_drop 2 (by assumption) | exact Views.of_drop 3 (by assumption) | exact Views.of_drop 4 (by assumption) | exact Views.of_drop 5 (by assumption) | exact Views.of_drop 6 (by assumption) | exact Views.of_drop 7 (by assumption) | exact Views.of_drop 8 (by assumption) | exact Views.of_drop 9 (by assumption) | exact Views.of_drop 10 (by assumption) | exact Views.of_drop 11 (by assumption) | exact Views.of_drop 12 (by assumption)) hw⟩) rfl ?_
        clear hE a; intro a hE
        refine qvG hE (by first | exact .t rfl | exact .f rfl | exact .gt rfl | exact .gf rfl) (fun hg w hw => by (try simp only [↓gval_on hg, ↓gval_and hg] at hE); (have hg2 := hg; (try simp only [Bool.and_eq_true, Bool.or_eq_true, Bool.not_eq_true', decide_eq_true_eq, decide_eq_false_iff_not] at hg2)); first | exact r_arreq ⟨hE, hw⟩ rfl rfl K.u_api_Key K.u_uint8 K.sz_uint8 (by kernel_rfl) (by first | rfl | assumption | (simp; done) | (simp; omega) | omega) (by first | rfl | assumption | (simp; done) | (simp; omega) | omega)) rfl ?_
        clear hE a; intro a hE
        refine qvG hE (by first | exact .t rfl | exact .f rfl | exact .gt rfl | exact .gf rfl) (fun hg w hw => by (try simp only [↓gval_on hg, ↓gval_and hg] at hE); (have hg2 := hg; (try simp only [Bool.and_eq_true, Bool.or_eq_true, Bool.not_eq_true', decide_eq_true_eq, decide_eq_false_iff_not] at hg2)); first | exact r_pickA ⟨hE, hw⟩ rfl rfl rfl | exact r_pickO ⟨hE, hw⟩ rfl rfl rfl | exact r_pick_true ⟨hE, hw⟩ rfl rfl | exact r_pick_false ⟨hE, hw⟩ rfl rfl | exact r_pick ⟨hE, hw⟩ rfl rfl rfl) rfl ?_
        clear hE a; intro a hE
        first
          | (refine qv hE (fun w hw => r_pickA ⟨hE, hw⟩ rfl rfl rfl) rfl ?_)
          | (refine qv hE (fun w hw => r_pickO ⟨hE, hw⟩ rfl rfl rfl) rfl ?_)
          | (refine qv hE (fun w hw => r_pick_true ⟨hE, hw⟩ rfl rfl) rfl ?_)
          | (refine qv hE (fun w hw => r_pick_false ⟨hE, hw⟩ rfl rfl) rfl ?_)
          | (refine qv hE (fun w hw => r_pick ⟨hE, hw⟩ rfl rfl rfl) rfl ?_)
        clear hE a; intro a hE
        refine qv hE (fun w hw => r_assign ⟨hE, hw⟩ rfl) rfl ?_
        clear hE a; intro a hE
        refine qnil hE ?_
        clear hE a; intro a w h
        refine c_then ?_
        refine c_ret ?_
        exact ret1 h rfl rfl ⟨(), ret_true (by by_cases q : nearC c = y <;> simp [q]), (by first | exact h.2 | exact h.2.drop 1 | exact h.2.drop 2 | exact h.2.drop 3 | exact h.2.drop 4 | exact h.2.drop 5 | exact h.2.drop 6 | exact h.2.drop 7 | exact h.2.drop 8 | exact h.2.drop 9 | exact h.2.drop 10 | exact h.2.drop 11 | exact h.2.drop 12 | exact h.2.drop 13 | exact h.2.drop 14 | exact h.2.drop 15 | exact h.2.drop 16), trivial⟩
end Go.Proofs.K
