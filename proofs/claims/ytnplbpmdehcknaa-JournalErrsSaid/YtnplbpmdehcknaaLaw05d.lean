/- The laws of layer 5, walked: faults. -/
import Derived.Test.YtnplbpmdehcknaaLaw05
import Derived.Test.YtnplbpmdehcknaaJne
set_option linter.unusedVariables false
set_option linter.unusedSimpArgs false
set_option maxRecDepth 10000
set_option maxHeartbeats 2000000
namespace Go.Proofs.K
open Go.Sl
attribute [local irreducible] Go.Sl.Own Go.Sl.Blk Go.Sl.Sep Go.Sl.Ex Go.Sl.Fact
attribute [local irreducible] DiskI
attribute [local irreducible] JnI
theorem Jn.JS.mono' {D : Dk} {m : List B64} {n : Nat} {A A' : Int} (h : Jn.JS D m n A) (hA : A ≤ A') : Jn.JS D m n A' := ⟨h.rest, h.ok, h.left, by have := h.acts; omega, h.pos⟩
theorem Sat.dropApp {s w : World} {G F : List HItem} (h : Sat s w (G ++ F)) : Sat s w F := by
  have := h.drop G.length
  rwa [List.drop_left] at this
theorem errsSmall (s w : World) (c : Int) (pv : Value) (p : List UInt8) (n sec : UInt8) (F : List HItem) (hp : ViewsB F pv p) (hsm : sec ≤ 49) (hs : Sat s w F) :
    Calls P n_law05_JournalErrs #[.int .i64 c, pv, bv n, bv sec] w (Ret s (fun _ : Unit => .bool true) (fun _ => F) (fun _ => True)) := by
  have hN : sec.toNat ≤ 49 := hsm
  refine enter K.fn_law05_JournalErrs rfl K.nt_law05_JournalErrs rfl hs ?_
  clear hs w; intro a w h
  refine c_seq (c_region ?_)
  refine wv h (r_assign h rfl) rfl ?_
  clear h a w; intro a w h
  refine wnil (c_then ?_)
  refine c_seq ?_
  refine c_seq (c_region ?_)
  refine wl rfl (op_call h rfl K.go_law05_awake (law05_awake s _ _ h.2) rfl ?_)
  clear h a w; intro x a w hx h
  (try simp only [List.set_cons_zero, List.set_cons_succ] at h)
  refine wv h (r_not h rfl) rfl ?_
  clear h a w; intro a w h
  refine wv h (r_move h rfl) rfl ?_
  clear h a w; intro a w h
  refine wvG h (by first | exact .t rfl | exact .f rfl | exact .gt rfl | exact .gf rfl) (fun hg => by (try simp only [↓gval_on hg, ↓gval_and hg] at h); (have hg2 := hg; (try simp only [Bool.and_eq_true, Bool.or_eq_true, Bool.not_eq_true', decide_eq_true_eq, decide_eq_false_iff_not] at hg2)); first | exact r_move h rfl) rfl ?_
  clear h a w; intro a w h
  refine wvG h (by first | exact .t rfl | exact .f rfl | exact .gt rfl | exact .gf rfl) (fun hg => by (try simp only [↓gval_on hg, ↓gval_and hg] at h); (have hg2 := hg; (try simp only [Bool.and_eq_true, Bool.or_eq_true, Bool.not_eq_true', decide_eq_true_eq, decide_eq_false_iff_not] at hg2)); first | exact r_lenB h rfl K.u_S_uint8 (by first | exact ViewsB.own 0 rfl | exact ViewsB.own 1 rfl | exact ViewsB.own 2 rfl | exact ViewsB.own 3 rfl | exact ViewsB.own 4 rfl | exact ViewsB.own 5 rfl | assumption | exact ViewsB.nil _ | exact ViewsB.arr 0 rfl (by first | assumption | rfl | (simp; done)) (Nat.le_refl _) (by simp [maxLen]) | exact ViewsB.arr 1 rfl (by first | assumption | rfl | (simp; done)) (Nat.le_refl _) (by simp [maxLen]) | exact ViewsB.arr 2 rfl (by first | assumption | rfl | (simp; done)) (Nat.le_refl _) (by simp [maxLen]) | exact ViewsB.arr 3 rfl (by first | assumption | rfl | (simp; done)) (Nat.le_refl _) (by simp [maxLen]) | exact ViewsB.arr 4 rfl (by first | assumption | rfl | (simp; done)) (Nat.le_refl _) (by simp [maxLen]) | exact ViewsB.of_drop 1 (by assumption) | exact ViewsB.of_drop 2 (by assumption) | exact ViewsB.of_drop 3 (by assumption) | exact ViewsB.of_drop 4 (by assumption) | exact ViewsB.of_drop 5 (by assumption) | exact ViewsB.of_drop 6 (by assumption) | exact ViewsB.of_drop 7 (by assumption) | exact ViewsB.of_drop 8 (by assumption) | exact ViewsB.of_drop 9 (by assumption) | exact ViewsB.of_drop 10 (by assumption) | exact ViewsB.of_drop 11 (by assumption) | exact ViewsB.of_drop 12 (by assumption) | exact ViewsB.sub (by first | exact ViewsB.own 0 rfl | exact ViewsB.own 1 rfl | exact ViewsB.own 2 rfl | exact ViewsB.own 3 rfl | exact ViewsB.own 4 rfl | exact ViewsB.own 5 rfl | assumption | exact ViewsB.nil _ | exact ViewsB.arr 0 rfl (by first | assumption | rfl | (simp; done)) (Nat.le_refl _) (by simp [maxLen]) | exact ViewsB.arr 1 rfl (by first | assumption | rfl | (simp; done)) (Nat.le_refl _) (by simp [maxLen]) | exact ViewsB.arr 2 rfl (by first | assumption | rfl | (simp; done)) (Nat.le_refl _) (by simp [maxLen]) | exact ViewsB.arr 3 rfl (by first | assumption | rfl | (simp; done)) (Nat.le_refl _) (by simp [maxLen]) | exact ViewsB.arr 4 rfl (by first | assumption | rfl | (simp; done)) (Nat.le_refl _) (by simp [maxLen]) | exact ViewsB.of_drop 1 (by assumption) | exact ViewsB.of_drop 2 (by assumption) | exact ViewsB.of_drop 3 (by assumption) | exact ViewsB.of_drop 4 (by assumption) | exact ViewsB.of_drop 5 (by assumption) | exact ViewsB.of_drop 6 (by assumption) | exact ViewsB.of_drop 7 (by assumption) | exact ViewsB.of_drop 8 (by assumption) | exact ViewsB.of_drop 9 (by assumption) | exact ViewsB.of_drop 10 (by assumption) | exact ViewsB.of_drop 11 (by assumption) | exact ViewsB.of_drop 12 (by assumption)) (by omega) (by first | omega | (simp; done) | (simp; omega)))) rfl ?_
  clear h a w; intro a w h
  refine wvG h (by first | exact .t rfl | exact .f rfl | exact .gt rfl | exact .gf rfl) (fun hg => by (try simp only [↓gval_on hg, ↓gval_and hg] at h); (have hg2 := hg; (try simp only [Bool.and_eq_true, Bool.or_eq_true, Bool.not_eq_true', decide_eq_true_eq, decide_eq_false_iff_not] at hg2)); first | exact r_bin h rfl rfl (B.gtr_int)) rfl ?_
  clear h a w; intro a w h
  first
    | (refine wv h (r_pickA h rfl rfl rfl) rfl ?_)
    | (refine wv h (r_pickO h rfl rfl rfl) rfl ?_)
    | (refine wv h (r_pick_true h rfl rfl) rfl ?_)
    | (refine wv h (r_pick_false h rfl rfl) rfl ?_)
    | (refine wv h (r_pick h rfl rfl rfl) rfl ?_)
  clear h a w; intro a w h
  refine wnil (c_then ?_)
  first
   | refine c_condD h rfl (fun ht1 => ?_) (fun ht1 => ?_)
   | refine c_condP h rfl (by first | (simp only [Bool.and_eq_true, Bool.or_eq_true, Bool.not_eq_true', decide_eq_true_eq, decide_eq_false_iff_not, ne_eq, Bool.not_eq_eq_eq_not, Bool.not_true, beq_iff_eq, bne_iff_ne]; exact Iff.rfl) | exact Iff.rfl) (fun ht1 => ?_) (fun ht1 => ?_)
  ·
   as_aux_lemma =>
    refine c_seq (c_region ?_)
    refine wl rfl (op_call h rfl K.go_law05_awake (law05_awake s _ _ h.2) rfl ?_)
    clear h a w; intro x a w hx h
    (try simp only [List.set_cons_zero, List.set_cons_succ] at h)
    refine wv h (r_assign h rfl) rfl ?_
    clear h a w; intro a w h
    refine wnil (c_then ?_)
    refine c_ret ?_
    exact ret1 h rfl rfl ⟨(), rfl, (by first | exact h.2 | exact h.2.drop 1 | exact h.2.drop 2 | exact h.2.drop 3 | exact h.2.drop 4 | exact h.2.drop 5 | exact h.2.drop 6 | exact h.2.drop 7 | exact h.2.drop 8 | exact h.2.drop 9 | exact h.2.drop 10 | exact h.2.drop 11 | exact h.2.drop 12 | exact h.2.drop 13 | exact h.2.drop 14 | exact h.2.drop 15 | exact h.2.drop 16), trivial⟩
  ·
   refine c_skip ?_
   refine c_then ?_
   refine c_seq (c_region ?_)
   refine wv h (r_move h rfl) rfl ?_
   clear h a w; intro a w h
   refine wv h (r_conv h rfl K.u_uint8 K.u_int (C.i64_u8) ) rfl ?_
   clear h a w; intro a w h
   refine wl rfl (op_call h rfl K.go_disk_New (disk_New s _ _ _ h.2) rfl ?_)
   clear h a w; intro b9 a w hx h
   (try simp only [List.set_cons_zero, List.set_cons_succ] at h)
   rw [show (min (max (sec.toNat : Int) 0) 4096).toNat = sec.toNat by omega] at h
   refine wl rfl (op_call h rfl K.go_journal_Open (jn_Open_small s _ b9 _ _ (by simp [Dk.new]; omega) h.2) rfl ?_)
   clear h a w; intro x a w hx h
   (try simp only [List.set_cons_zero, List.set_cons_succ] at h)
   refine wv h (r_move h rfl) rfl ?_
   clear h a w; intro a w h
   refine wv h (r_extractN h rfl rfl) rfl ?_
   clear h a w; intro a w h
   refine wv h (r_extractN h rfl rfl) rfl ?_
   clear h a w; intro a w h
   refine wv h (r_assign h rfl) rfl ?_
   clear h a w; intro a w h
   refine wv h (r_assign h rfl) rfl ?_
   clear h a w; intro a w h
   refine wnil (c_then ?_)
   refine c_seq ?_
   refine c_seq (c_region ?_)
   refine wv h (r_move h rfl) rfl ?_
   clear h a w; intro a w h
   refine wv h (r_bin h rfl rfl (B.leq_u8 (y := 49))) rfl ?_
   clear h a w; intro a w h
   refine wnil (c_then ?_)
   first
    | refine c_condD h rfl (fun ht2 => ?_) (fun ht2 => ?_)
    | refine c_condP h rfl (by first | (simp only [Bool.and_eq_true, Bool.or_eq_true, Bool.not_eq_true', decide_eq_true_eq, decide_eq_false_iff_not, ne_eq, Bool.not_eq_eq_eq_not, Bool.not_true, beq_iff_eq, bne_iff_ne]; exact Iff.rfl) | exact Iff.rfl) (fun ht2 => ?_) (fun ht2 => ?_)
   ·
    as_aux_lemma =>
     refine c_seq (c_region ?_)
     refine wl rfl (op_call h rfl K.go_journal_Open (jn_Open_nil s _ _ h.2) rfl ?_)
     clear h a w; intro x a w hx h
     (try simp only [List.set_cons_zero, List.set_cons_succ] at h)
     refine wv h (r_move h rfl) rfl ?_
     clear h a w; intro a w h
     refine wv h (r_extractN h rfl rfl) rfl ?_
     clear h a w; intro a w h
     refine wv h (r_extractN h rfl rfl) rfl ?_
     clear h a w; intro a w h
     refine wv h (r_assign h rfl) rfl ?_
     clear h a w; intro a w h
     refine wv h (r_assign h rfl) rfl ?_
     clear h a w; intro a w h
     refine wnil (c_then ?_)
     refine c_seq (c_region ?_)
     refine wv h (r_assign h rfl) rfl ?_
     clear h a w; intro a w h
     refine wnil (c_then ?_)
     refine c_seq (c_region ?_)
     refine wv h (r_move h rfl) rfl ?_
     clear h a w; intro a w h
     refine wv h (r_move h rfl) rfl ?_
     clear h a w; intro a w h
     refine wl rfl (op_call h rfl K.go_journal_Journal_Read (jn_Read_nil s _ _ _ h.2) rfl ?_)
     clear h a w; intro x a w hx h
     (try simp only [List.set_cons_zero, List.set_cons_succ] at h)
     refine wv h (r_move h rfl) rfl ?_
     clear h a w; intro a w h
     refine wv h (r_extractN h rfl rfl) rfl ?_
     clear h a w; intro a w h
     refine wv h (r_extractN h rfl rfl) rfl ?_
     clear h a w; intro a w h
     refine wv h (r_assign h rfl) rfl ?_
     clear h a w; intro a w h
     refine wv h (r_assign h rfl) rfl ?_
     clear h a w; intro a w h
     refine wnil (c_then ?_)
     refine c_seq (c_region ?_)
     refine wv h (r_move h rfl) rfl ?_
     clear h a w; intro a w h
     refine wv h (r_bin h rfl rfl (B.eql_int)) rfl ?_
     clear h a w; intro a w h
     refine wv h (r_move h rfl) rfl ?_
     clear h a w; intro a w h
     refine wvG h (by first | exact .t rfl | exact .f rfl | exact .gt rfl | exact .gf rfl) (fun hg => by (try simp only [↓gval_on hg, ↓gval_and hg] at h); (have hg2 := hg; (try simp only [Bool.and_eq_true, Bool.or_eq_true, Bool.not_eq_true', decide_eq_true_eq, decide_eq_false_iff_not] at hg2)); first | exact r_move h rfl) rfl ?_
     clear h a w; intro a w h
     refine wvG h (by first | exact .t rfl | exact .f rfl | exact .gt rfl | exact .gf rfl) (fun hg => by (try simp only [↓gval_on hg, ↓gval_and hg] at h); (have hg2 := hg; (try simp only [Bool.and_eq_true, Bool.or_eq_true, Bool.not_eq_true', decide_eq_true_eq, decide_eq_false_iff_not] at hg2)); first | exact r_ptreq_nil h K.u_p_journal_Journal rfl rfl) rfl ?_
     clear h a w; intro a w h
     first
          | (refine wv h (r_pickA h rfl rfl rfl) rfl ?_)
          | (refine wv h (r_pickO h rfl rfl rfl) rfl ?_)
          | (refine wv h (r_pick_true h rfl rfl) rfl ?_)
          | (refine wv h (r_pick_false h rfl rfl) rfl ?_)
          | (refine wv h (r_pick h rfl rfl rfl) rfl ?_)
     clear h a w; intro a w h
     refine wv h (r_move h rfl) rfl ?_
     clear h a w; intro a w h
     refine wvG h (by first | exact .t rfl | exact .f rfl | exact .gt rfl | exact .gf rfl) (fun hg => by (try simp only [↓gval_on hg, ↓gval_and hg] at h); (have hg2 := hg; (try simp only [Bool.and_eq_true, Bool.or_eq_true, Bool.not_eq_true', decide_eq_true_eq, decide_eq_false_iff_not] at hg2)); first | exact r_move h rfl) rfl ?_
     clear h a w; intro a w h
     refine wvG h (by first | exact .t rfl | exact .f rfl | exact .gt rfl | exact .gf rfl) (fun hg => by (try simp only [↓gval_on hg, ↓gval_and hg] at h); (have hg2 := hg; (try simp only [Bool.and_eq_true, Bool.or_eq_true, Bool.not_eq_true', decide_eq_true_eq, decide_eq_false_iff_not] at hg2)); first | exact r_bin h rfl rfl (B.eql_int)) rfl ?_
     clear h a w; intro a w h
     first
          | (refine wv h (r_pickA h rfl rfl rfl) rfl ?_)
          | (refine wv h (r_pickO h rfl rfl rfl) rfl ?_)
          | (refine wv h (r_pick_true h rfl rfl) rfl ?_)
          | (refine wv h (r_pick_false h rfl rfl) rfl ?_)
          | (refine wv h (r_pick h rfl rfl rfl) rfl ?_)
     clear h a w; intro a w h
     refine wv h (r_move h rfl) rfl ?_
     clear h a w; intro a w h
     refine wvG h (by first | exact .t rfl | exact .f rfl | exact .gt rfl | exact .gf rfl) (fun hg => by (try simp only [↓gval_on hg, ↓gval_and hg] at h); (have hg2 := hg; (try simp only [Bool.and_eq_true, Bool.or_eq_true, Bool.not_eq_true', decide_eq_true_eq, decide_eq_false_iff_not] at hg2)); first | exact r_move h rfl) rfl ?_
     clear h a w; intro a w h
     refine wcG h (by first | exact .t rfl | exact .f rfl | exact .gt rfl | exact .gf rfl) K.go_journal_Journal_Sectors (fun hg => by (try simp only [↓gval_on hg, ↓gval_and hg]); (have hg2 := hg; (try simp only [Bool.and_eq_true, Bool.or_eq_true, Bool.not_eq_true', decide_eq_true_eq, decide_eq_false_iff_not] at hg2)); exact ⟨_, rfl, jn_Sectors_nil s _ _ h.2⟩) rfl ?_
     clear h a w; intro a w h
     refine wvG h (by first | exact .t rfl | exact .f rfl | exact .gt rfl | exact .gf rfl) (fun hg => by (try simp only [↓gval_on hg, ↓gval_and hg] at h); (have hg2 := hg; (try simp only [Bool.and_eq_true, Bool.or_eq_true, Bool.not_eq_true', decide_eq_true_eq, decide_eq_false_iff_not] at hg2)); first | exact r_bin h rfl rfl (B.eql_int)) rfl ?_
     clear h a w; intro a w h
     first
          | (refine wv h (r_pickA h rfl rfl rfl) rfl ?_)
          | (refine wv h (r_pickO h rfl rfl rfl) rfl ?_)
          | (refine wv h (r_pick_true h rfl rfl) rfl ?_)
          | (refine wv h (r_pick_false h rfl rfl) rfl ?_)
          | (refine wv h (r_pick h rfl rfl rfl) rfl ?_)
     clear h a w; intro a w h
     refine wv h (r_move h rfl) rfl ?_
     clear h a w; intro a w h
     refine wvG h (by first | exact .t rfl | exact .f rfl | exact .gt rfl | exact .gf rfl) (fun hg => by (try simp only [↓gval_on hg, ↓gval_and hg] at h); (have hg2 := hg; (try simp only [Bool.and_eq_true, Bool.or_eq_true, Bool.not_eq_true', decide_eq_true_eq, decide_eq_false_iff_not] at hg2)); first | exact r_move h rfl) rfl ?_
     clear h a w; intro a w h
     refine wvG h (by first | exact .t rfl | exact .f rfl | exact .gt rfl | exact .gf rfl) (fun hg => by (try simp only [↓gval_on hg, ↓gval_and hg] at h); (have hg2 := hg; (try simp only [Bool.and_eq_true, Bool.or_eq_true, Bool.not_eq_true', decide_eq_true_eq, decide_eq_false_iff_not] at hg2)); first | exact r_bin h rfl rfl (B.eql_int)) rfl ?_
     clear h a w; intro a w h
     first
          | (refine wv h (r_pickA h rfl rfl rfl) rfl ?_)
          | (refine wv h (r_pickO h rfl rfl rfl) rfl ?_)
          | (refine wv h (r_pick_true h rfl rfl) rfl ?_)
          | (refine wv h (r_pick_false h rfl rfl) rfl ?_)
          | (refine wv h (r_pick h rfl rfl rfl) rfl ?_)
     clear h a w; intro a w h
     refine wv h (r_move h rfl) rfl ?_
     clear h a w; intro a w h
     refine wvG h (by first | exact .t rfl | exact .f rfl | exact .gt rfl | exact .gf rfl) (fun hg => by (try simp only [↓gval_on hg, ↓gval_and hg] at h); (have hg2 := hg; (try simp only [Bool.and_eq_true, Bool.or_eq_true, Bool.not_eq_true', decide_eq_true_eq, decide_eq_false_iff_not] at hg2)); first | exact r_move h rfl) rfl ?_
     clear h a w; intro a w h
     refine wcG h (by first | exact .t rfl | exact .f rfl | exact .gt rfl | exact .gf rfl) K.go_journal_Journal_Write (fun hg => by (try simp only [↓gval_on hg, ↓gval_and hg]); (have hg2 := hg; (try simp only [Bool.and_eq_true, Bool.or_eq_true, Bool.not_eq_true', decide_eq_true_eq, decide_eq_false_iff_not] at hg2)); exact ⟨_, rfl, jn_Write_nil s _ _ _ h.2⟩) rfl ?_
     clear h a w; intro a w h
     refine wvG h (by first | exact .t rfl | exact .f rfl | exact .gt rfl | exact .gf rfl) (fun hg => by (try simp only [↓gval_on hg, ↓gval_and hg] at h); (have hg2 := hg; (try simp only [Bool.and_eq_true, Bool.or_eq_true, Bool.not_eq_true', decide_eq_true_eq, decide_eq_false_iff_not] at hg2)); first | exact r_bin h rfl rfl (B.eql_int)) rfl ?_
     clear h a w; intro a w h
     first
          | (refine wv h (r_pickA h rfl rfl rfl) rfl ?_)
          | (refine wv h (r_pickO h rfl rfl rfl) rfl ?_)
          | (refine wv h (r_pick_true h rfl rfl) rfl ?_)
          | (refine wv h (r_pick_false h rfl rfl) rfl ?_)
          | (refine wv h (r_pick h rfl rfl rfl) rfl ?_)
     clear h a w; intro a w h
     refine wv h (r_move h rfl) rfl ?_
     clear h a w; intro a w h
     refine wvG h (by first | exact .t rfl | exact .f rfl | exact .gt rfl | exact .gf rfl) (fun hg => by (try simp only [↓gval_on hg, ↓gval_and hg] at h); (have hg2 := hg; (try simp only [Bool.and_eq_true, Bool.or_eq_true, Bool.not_eq_true', decide_eq_true_eq, decide_eq_false_iff_not] at hg2)); first | exact r_move h rfl) rfl ?_
     clear h a w; intro a w h
     refine wcG h (by first | exact .t rfl | exact .f rfl | exact .gt rfl | exact .gf rfl) K.go_journal_Journal_On (fun hg => by (try simp only [↓gval_on hg, ↓gval_and hg]); (have hg2 := hg; (try simp only [Bool.and_eq_true, Bool.or_eq_true, Bool.not_eq_true', decide_eq_true_eq, decide_eq_false_iff_not] at hg2)); exact ⟨_, rfl, jn_On_nil s _ _ h.2⟩) rfl ?_
     clear h a w; intro a w h
     refine wvG h (by first | exact .t rfl | exact .f rfl | exact .gt rfl | exact .gf rfl) (fun hg => by (try simp only [↓gval_on hg, ↓gval_and hg] at h); (have hg2 := hg; (try simp only [Bool.and_eq_true, Bool.or_eq_true, Bool.not_eq_true', decide_eq_true_eq, decide_eq_false_iff_not] at hg2)); first | exact r_not h rfl) rfl ?_
     clear h a w; intro a w h
     first
          | (refine wv h (r_pickA h rfl rfl rfl) rfl ?_)
          | (refine wv h (r_pickO h rfl rfl rfl) rfl ?_)
          | (refine wv h (r_pick_true h rfl rfl) rfl ?_)
          | (refine wv h (r_pick_false h rfl rfl) rfl ?_)
          | (refine wv h (r_pick h rfl rfl rfl) rfl ?_)
     clear h a w; intro a w h
     refine wv h (r_assign h rfl) rfl ?_
     clear h a w; intro a w h
     refine wnil (c_then ?_)
     refine c_ret ?_
     exact ret1 h rfl rfl ⟨(), ret_true (by simp), (by first | exact h.2 | exact h.2.drop 1 | exact h.2.drop 2 | exact h.2.drop 3 | exact h.2.drop 4 | exact h.2.drop 5 | exact h.2.drop 6 | exact h.2.drop 7 | exact h.2.drop 8 | exact h.2.drop 9 | exact h.2.drop 10 | exact h.2.drop 11 | exact h.2.drop 12 | exact h.2.drop 13 | exact h.2.drop 14 | exact h.2.drop 15 | exact h.2.drop 16), trivial⟩
   ·
    exfalso
    exact ht2 hsm

theorem errsBig (s w : World) (c : Int) (pv : Value) (p : List UInt8) (n sec : UInt8) (F : List HItem) (hp : ViewsB F pv p) (hbg : ¬ sec ≤ 49) (hs : Sat s w F) :
    Calls P n_law05_JournalErrs #[.int .i64 c, pv, bv n, bv sec] w (Ret s (fun _ : Unit => .bool true) (fun _ => F) (fun _ => True)) := by
  have hN : ¬ sec.toNat ≤ 49 := hbg
  have hN2 := sec.toNat_lt
  obtain ⟨K0, hK0⟩ : ∃ K0, sec.toNat = 49 + K0 := ⟨sec.toNat - 49, by omega⟩
  obtain ⟨q, hq⟩ : ∃ q, q = (n % 40).toNat := ⟨_, rfl⟩
  have hq40 : q < 40 := by rw [hq, UInt8.toNat_mod]; exact Nat.mod_lt _ (by decide)
  obtain ⟨Ap, cp, hpv, -, -⟩ := Views.shape hp hs
  subst hpv
  refine enter K.fn_law05_JournalErrs rfl K.nt_law05_JournalErrs rfl hs ?_
  clear hs w; intro a w h
  refine c_seq (c_region ?_)
  refine wv h (r_assign h rfl) rfl ?_
  clear h a w; intro a w h
  refine wnil (c_then ?_)
  refine c_seq ?_
  refine c_seq (c_region ?_)
  refine wl rfl (op_call h rfl K.go_law05_awake (law05_awake s _ _ h.2) rfl ?_)
  clear h a w; intro x a w hx h
  (try simp only [List.set_cons_zero, List.set_cons_succ] at h)
  refine wv h (r_not h rfl) rfl ?_
  clear h a w; intro a w h
  refine wv h (r_move h rfl) rfl ?_
  clear h a w; intro a w h
  refine wvG h (by first | exact .t rfl | exact .f rfl | exact .gt rfl | exact .gf rfl) (fun hg => by (try simp only [↓gval_on hg, ↓gval_and hg] at h); (have hg2 := hg; (try simp only [Bool.and_eq_true, Bool.or_eq_true, Bool.not_eq_true', decide_eq_true_eq, decide_eq_false_iff_not] at hg2)); first | exact r_move h rfl) rfl ?_
  clear h a w; intro a w h
  refine wvG h (by first | exact .t rfl | exact .f rfl | exact .gt rfl | exact .gf rfl) (fun hg => by (try simp only [↓gval_on hg, ↓gval_and hg] at h); (have hg2 := hg; (try simp only [Bool.and_eq_true, Bool.or_eq_true, Bool.not_eq_true', decide_eq_true_eq, decide_eq_false_iff_not] at hg2)); first | exact r_lenB h rfl K.u_S_uint8 (by first | exact ViewsB.own 0 rfl | exact ViewsB.own 1 rfl | exact ViewsB.own 2 rfl | exact ViewsB.own 3 rfl | exact ViewsB.own 4 rfl | exact ViewsB.own 5 rfl | assumption | exact ViewsB.nil _ | exact ViewsB.arr 0 rfl (by first | assumption | rfl | (simp; done)) (Nat.le_refl _) (by simp [maxLen]) | exact ViewsB.arr 1 rfl (by first | assumption | rfl | (simp; done)) (Nat.le_refl _) (by simp [maxLen]) | exact ViewsB.arr 2 rfl (by first | assumption | rfl | (simp; done)) (Nat.le_refl _) (by simp [maxLen]) | exact ViewsB.arr 3 rfl (by first | assumption | rfl | (simp; done)) (Nat.le_refl _) (by simp [maxLen]) | exact ViewsB.arr 4 rfl (by first | assumption | rfl | (simp; done)) (Nat.le_refl _) (by simp [maxLen]) | exact ViewsB.of_drop 1 (by assumption) | exact ViewsB.of_drop 2 (by assumption) | exact ViewsB.of_drop 3 (by assumption) | exact ViewsB.of_drop 4 (by assumption) | exact ViewsB.of_drop 5 (by assumption) | exact ViewsB.of_drop 6 (by assumption) | exact ViewsB.of_drop 7 (by assumption) | exact ViewsB.of_drop 8 (by assumption) | exact ViewsB.of_drop 9 (by assumption) | exact ViewsB.of_drop 10 (by assumption) | exact ViewsB.of_drop 11 (by assumption) | exact ViewsB.of_drop 12 (by assumption) | exact ViewsB.sub (by first | exact ViewsB.own 0 rfl | exact ViewsB.own 1 rfl | exact ViewsB.own 2 rfl | exact ViewsB.own 3 rfl | exact ViewsB.own 4 rfl | exact ViewsB.own 5 rfl | assumption | exact ViewsB.nil _ | exact ViewsB.arr 0 rfl (by first | assumption | rfl | (simp; done)) (Nat.le_refl _) (by simp [maxLen]) | exact ViewsB.arr 1 rfl (by first | assumption | rfl | (simp; done)) (Nat.le_refl _) (by simp [maxLen]) | exact ViewsB.arr 2 rfl (by first | assumption | rfl | (simp; done)) (Nat.le_refl _) (by simp [maxLen]) | exact ViewsB.arr 3 rfl (by first | assumption | rfl | (simp; done)) (Nat.le_refl _) (by simp [maxLen]) | exact ViewsB.arr 4 rfl (by first | assumption | rfl | (simp; done)) (Nat.le_refl _) (by simp [maxLen]) | exact ViewsB.of_drop 1 (by assumption) | exact ViewsB.of_drop 2 (by assumption) | exact ViewsB.of_drop 3 (by assumption) | exact ViewsB.of_drop 4 (by assumption) | exact ViewsB.of_drop 5 (by assumption) | exact ViewsB.of_drop 6 (by assumption) | exact ViewsB.of_drop 7 (by assumption) | exact ViewsB.of_drop 8 (by assumption) | exact ViewsB.of_drop 9 (by assumption) | exact ViewsB.of_drop 10 (by assumption) | exact ViewsB.of_drop 11 (by assumption) | exact ViewsB.of_drop 12 (by assumption)) (by omega) (by first | omega | (simp; done) | (simp; omega)))) rfl ?_
  clear h a w; intro a w h
  refine wvG h (by first | exact .t rfl | exact .f rfl | exact .gt rfl | exact .gf rfl) (fun hg => by (try simp only [↓gval_on hg, ↓gval_and hg] at h); (have hg2 := hg; (try simp only [Bool.and_eq_true, Bool.or_eq_true, Bool.not_eq_true', decide_eq_true_eq, decide_eq_false_iff_not] at hg2)); first | exact r_bin h rfl rfl (B.gtr_int)) rfl ?_
  clear h a w; intro a w h
  first
    | (refine wv h (r_pickA h rfl rfl rfl) rfl ?_)
    | (refine wv h (r_pickO h rfl rfl rfl) rfl ?_)
    | (refine wv h (r_pick_true h rfl rfl) rfl ?_)
    | (refine wv h (r_pick_false h rfl rfl) rfl ?_)
    | (refine wv h (r_pick h rfl rfl rfl) rfl ?_)
  clear h a w; intro a w h
  refine wnil (c_then ?_)
  first
   | refine c_condD h rfl (fun ht1 => ?_) (fun ht1 => ?_)
   | refine c_condP h rfl (by first | (simp only [Bool.and_eq_true, Bool.or_eq_true, Bool.not_eq_true', decide_eq_true_eq, decide_eq_false_iff_not, ne_eq, Bool.not_eq_eq_eq_not, Bool.not_true, beq_iff_eq, bne_iff_ne]; exact Iff.rfl) | exact Iff.rfl) (fun ht1 => ?_) (fun ht1 => ?_)
  ·
   as_aux_lemma =>
    refine c_seq (c_region ?_)
    refine wl rfl (op_call h rfl K.go_law05_awake (law05_awake s _ _ h.2) rfl ?_)
    clear h a w; intro x a w hx h
    (try simp only [List.set_cons_zero, List.set_cons_succ] at h)
    refine wv h (r_assign h rfl) rfl ?_
    clear h a w; intro a w h
    refine wnil (c_then ?_)
    refine c_ret ?_
    exact ret1 h rfl rfl ⟨(), rfl, (by first | exact h.2 | exact h.2.drop 1 | exact h.2.drop 2 | exact h.2.drop 3 | exact h.2.drop 4 | exact h.2.drop 5 | exact h.2.drop 6 | exact h.2.drop 7 | exact h.2.drop 8 | exact h.2.drop 9 | exact h.2.drop 10 | exact h.2.drop 11 | exact h.2.drop 12 | exact h.2.drop 13 | exact h.2.drop 14 | exact h.2.drop 15 | exact h.2.drop 16), trivial⟩
  ·
   refine c_skip ?_
   refine c_then ?_
   refine c_seq (c_region ?_)
   refine wv h (r_move h rfl) rfl ?_
   clear h a w; intro a w h
   refine wv h (r_conv h rfl K.u_uint8 K.u_int (C.i64_u8) ) rfl ?_
   clear h a w; intro a w h
   refine wl rfl (op_call h rfl K.go_disk_New (disk_New s _ _ _ h.2) rfl ?_)
   clear h a w; intro b9 a w hx h
   (try simp only [List.set_cons_zero, List.set_cons_succ] at h)
   rw [show (min (max (sec.toNat : Int) 0) 4096).toNat = 49 + K0 by omega] at h
   have J0 := Jn.js_new K0 (by omega)
   obtain ⟨o1, o2, o3⟩ := Jn.js_open J0 (by decide)
   generalize Dk.new (49 + K0) = D0 at *
   refine wl rfl (op_call h rfl K.go_journal_Open (jn_Open s _ b9 D0 _ J0.ok J0.mid.off (by rw [J0.len]; simp; omega) (by have := J0.acts; omega) h.2) rfl ?_)
   clear h a w; intro bj a w hx h
   (try simp only [List.set_cons_zero, List.set_cons_succ] at h)
   rw [if_pos o1, o1] at h
   generalize (Jn.openN D0).1 = D1 at *
   generalize Jn.nextN D0.read 49 = n1 at *
   have k1 := o2.ok
   have hac1 := o2.acts
   have l1 := o2.len
   rw [List.length_replicate] at l1
   refine wv h (r_move h rfl) rfl ?_
   clear h a w; intro a w h
   refine wv h (r_extractN h rfl rfl) rfl ?_
   clear h a w; intro a w h
   refine wv h (r_extractN h rfl rfl) rfl ?_
   clear h a w; intro a w h
   refine wv h (r_assign h rfl) rfl ?_
   clear h a w; intro a w h
   refine wv h (r_assign h rfl) rfl ?_
   clear h a w; intro a w h
   refine wnil (c_then ?_)
   refine c_seq ?_
   refine c_seq (c_region ?_)
   refine wv h (r_move h rfl) rfl ?_
   clear h a w; intro a w h
   refine wv h (r_bin h rfl rfl (B.leq_u8 (y := 49))) rfl ?_
   clear h a w; intro a w h
   refine wnil (c_then ?_)
   first
    | refine c_condD h rfl (fun ht2 => ?_) (fun ht2 => ?_)
    | refine c_condP h rfl (by first | (simp only [Bool.and_eq_true, Bool.or_eq_true, Bool.not_eq_true', decide_eq_true_eq, decide_eq_false_iff_not, ne_eq, Bool.not_eq_eq_eq_not, Bool.not_true, beq_iff_eq, bne_iff_ne]; exact Iff.rfl) | exact Iff.rfl) (fun ht2 => ?_) (fun ht2 => ?_)
   ·
    exfalso
    exact hbg ht2
   ·
    refine c_skip ?_
    refine c_then ?_
    refine c_seq (c_region ?_)
    refine wv h (r_move h rfl) rfl ?_
    clear h a w; intro a w h
    refine wv h (r_conv h rfl K.u_uint8 K.u_int (C.i64_u8) ) rfl ?_
    clear h a w; intro a w h
    refine wv h (r_bin h rfl rfl (B.sub_i64 (by omega) (by omega))) rfl ?_
    clear h a w; intro a w h
    rw [show (sec.toNat : Int) - 49 = (K0 : Int) by omega] at h
    refine wv h (r_assign h rfl) rfl ?_
    clear h a w; intro a w h
    refine wnil (c_then ?_)
    refine c_seq (c_region ?_)
    refine wv h (r_move h rfl) rfl ?_
    clear h a w; intro a w h
    refine wv h (r_bin h rfl rfl (B.geq_int)) rfl ?_
    clear h a w; intro a w h
    refine wv h (r_move h rfl) rfl ?_
    clear h a w; intro a w h
    refine wvG h (by first | exact .t rfl | exact .f rfl | exact .gt rfl | exact .gf rfl) (fun hg => by (try simp only [↓gval_on hg, ↓gval_and hg] at h); (have hg2 := hg; (try simp only [Bool.and_eq_true, Bool.or_eq_true, Bool.not_eq_true', decide_eq_true_eq, decide_eq_false_iff_not] at hg2)); first | exact r_move h rfl) rfl ?_
    clear h a w; intro a w h
    refine wvG h (by first | exact .t rfl | exact .f rfl | exact .gt rfl | exact .gf rfl) (fun hg => by (try simp only [↓gval_on hg, ↓gval_and hg] at h); (have hg2 := hg; (try simp only [Bool.and_eq_true, Bool.or_eq_true, Bool.not_eq_true', decide_eq_true_eq, decide_eq_false_iff_not] at hg2)); first | exact r_move h rfl) rfl ?_
    clear h a w; intro a w h
    refine wvG h (by first | exact .t rfl | exact .f rfl | exact .gt rfl | exact .gf rfl) (fun hg => by (try simp only [↓gval_on hg, ↓gval_and hg] at h); (have hg2 := hg; (try simp only [Bool.and_eq_true, Bool.or_eq_true, Bool.not_eq_true', decide_eq_true_eq, decide_eq_false_iff_not] at hg2)); first | exact r_bin h rfl rfl (B.lss_int)) rfl ?_
    clear h a w; intro a w h
    first
        | (refine wv h (r_pickA h rfl rfl rfl) rfl ?_)
        | (refine wv h (r_pickO h rfl rfl rfl) rfl ?_)
        | (refine wv h (r_pick_true h rfl rfl) rfl ?_)
        | (refine wv h (r_pick_false h rfl rfl) rfl ?_)
        | (refine wv h (r_pick h rfl rfl rfl) rfl ?_)
    clear h a w; intro a w h
    refine wv h (r_move h rfl) rfl ?_
    clear h a w; intro a w h
    refine wvG h (by first | exact .t rfl | exact .f rfl | exact .gt rfl | exact .gf rfl) (fun hg => by (try simp only [↓gval_on hg, ↓gval_and hg] at h); (have hg2 := hg; (try simp only [Bool.and_eq_true, Bool.or_eq_true, Bool.not_eq_true', decide_eq_true_eq, decide_eq_false_iff_not] at hg2)); first | exact r_move h rfl) rfl ?_
    clear h a w; intro a w h
    refine wvG h (by first | exact .t rfl | exact .f rfl | exact .gt rfl | exact .gf rfl) (fun hg => by (try simp only [↓gval_on hg, ↓gval_and hg] at h); (have hg2 := hg; (try simp only [Bool.and_eq_true, Bool.or_eq_true, Bool.not_eq_true', decide_eq_true_eq, decide_eq_false_iff_not] at hg2)); first | exact r_lenB h rfl K.u_S_uint8 (by first | exact ViewsB.own 0 rfl | exact ViewsB.own 1 rfl | exact ViewsB.own 2 rfl | exact ViewsB.own 3 rfl | exact ViewsB.own 4 rfl | exact ViewsB.own 5 rfl | assumption | exact ViewsB.nil _ | exact ViewsB.arr 0 rfl (by first | assumption | rfl | (simp; done)) (Nat.le_refl _) (by simp [maxLen]) | exact ViewsB.arr 1 rfl (by first | assumption | rfl | (simp; done)) (Nat.le_refl _) (by simp [maxLen]) | exact ViewsB.arr 2 rfl (by first | assumption | rfl | (simp; done)) (Nat.le_refl _) (by simp [maxLen]) | exact ViewsB.arr 3 rfl (by first | assumption | rfl | (simp; done)) (Nat.le_refl _) (by simp [maxLen]) | exact ViewsB.arr 4 rfl (by first | assumption | rfl | (simp; done)) (Nat.le_refl _) (by simp [maxLen]) | exact ViewsB.of_drop 1 (by assumption) | exact ViewsB.of_drop 2 (by assumption) | exact ViewsB.of_drop 3 (by assumption) | exact ViewsB.of_drop 4 (by assumption) | exact ViewsB.of_drop 5 (by assumption) | exact ViewsB.of_drop 6 (by assumption) | exact ViewsB.of_drop 7 (by assumption) | exact ViewsB.of_drop 8 (by assumption) | exact ViewsB.of_drop 9 (by assumption) | exact ViewsB.of_drop 10 (by assumption) | exact ViewsB.of_drop 11 (by assumption) | exact ViewsB.of_drop 12 (by assumption) | exact ViewsB.sub (by first | exact ViewsB.own 0 rfl | exact ViewsB.own 1 rfl | exact ViewsB.own 2 rfl | exact ViewsB.own 3 rfl | exact ViewsB.own 4 rfl | exact ViewsB.own 5 rfl | assumption | exact ViewsB.nil _ | exact ViewsB.arr 0 rfl (by first | assumption | rfl | (simp; done)) (Nat.le_refl _) (by simp [maxLen]) | exact ViewsB.arr 1 rfl (by first | assumption | rfl | (simp; done)) (Nat.le_refl _) (by simp [maxLen]) | exact ViewsB.arr 2 rfl (by first | assumption | rfl | (simp; done)) (Nat.le_refl _) (by simp [maxLen]) | exact ViewsB.arr 3 rfl (by first | assumption | rfl | (simp; done)) (Nat.le_refl _) (by simp [maxLen]) | exact ViewsB.arr 4 rfl (by first | assumption | rfl | (simp; done)) (Nat.le_refl _) (by simp [maxLen]) | exact ViewsB.of_drop 1 (by assumption) | exact ViewsB.of_drop 2 (by assumption) | exact ViewsB.of_drop 3 (by assumption) | exact ViewsB.of_drop 4 (by assumption) | exact ViewsB.of_drop 5 (by assumption) | exact ViewsB.of_drop 6 (by assumption) | exact ViewsB.of_drop 7 (by assumption) | exact ViewsB.of_drop 8 (by assumption) | exact ViewsB.of_drop 9 (by assumption) | exact ViewsB.of_drop 10 (by assumption) | exact ViewsB.of_drop 11 (by assumption) | exact ViewsB.of_drop 12 (by assumption)) (by omega) (by first | omega | (simp; done) | (simp; omega)))) rfl ?_
    clear h a w; intro a w h
    refine wvG h (by first | exact .t rfl | exact .f rfl | exact .gt rfl | exact .gf rfl) (fun hg => by (try simp only [↓gval_on hg, ↓gval_and hg] at h); (have hg2 := hg; (try simp only [Bool.and_eq_true, Bool.or_eq_true, Bool.not_eq_true', decide_eq_true_eq, decide_eq_false_iff_not] at hg2)); first | exact r_bin h rfl rfl (B.leq_int)) rfl ?_
    clear h a w; intro a w h
    first
        | (refine wv h (r_pickA h rfl rfl rfl) rfl ?_)
        | (refine wv h (r_pickO h rfl rfl rfl) rfl ?_)
        | (refine wv h (r_pick_true h rfl rfl) rfl ?_)
        | (refine wv h (r_pick_false h rfl rfl) rfl ?_)
        | (refine wv h (r_pick h rfl rfl rfl) rfl ?_)
    clear h a w; intro a w h
    obtain ⟨rb, hrb⟩ : ∃ b : Bool, b = (decide (0 ≤ c) && decide (c < (K0 : Int)) && decide ((p.length : Int) ≤ 64)) := ⟨_, rfl⟩
    rw [← hrb] at h
    obtain ⟨pl, hpl⟩ : ∃ pl : List PgV, pl = [⟨0, none, 0, 0, []⟩, ⟨c, Ap, p.length, cp, p⟩] := ⟨_, rfl⟩
    have hpl2 : pl.length = 2 := by rw [hpl]; rfl
    have hpp : pgs pl = [⟨0, []⟩, ⟨c, p⟩] := by rw [hpl]; rfl
    have hw : ∃ D2 n2 m2, Jn.jW D1 n1 (pgs pl) = (D2, n2, if rb = true then 0 else 1) ∧ Jn.JS D2 m2 n2 102 ∧ m2.length = K0 ∧ n2 ≤ 3 := by
      by_cases hr : rb = true
      · have hr2 := hr
        rw [hrb] at hr2
        simp only [Bool.and_eq_true, decide_eq_true_eq] at hr2
        have hoP : Jn.okP (List.replicate K0 B64.zero).length (pgs pl) := by
          rw [hpp]
          refine ⟨by simp, fun x hx => ?_⟩
          simp only [List.mem_cons, List.not_mem_nil, or_false] at hx
          rcases hx with rfl | rfl <;> refine ⟨?_, ?_, ?_⟩ <;> simp <;> omega
        obtain ⟨w1, w2, w3⟩ := Jn.js_write o2 hoP (by rw [hpp]; simp) (by decide) (by omega)
        refine ⟨(Jn.jW D1 n1 (pgs pl)).1, n1 + 1, _, ?_, w3, by simp, by omega⟩
        rw [if_pos hr, ← w1, ← w2]
      · refine ⟨D1, n1, _, ?_, Jn.JS.mono' o2 (by omega), by simp, by omega⟩
        rw [if_neg hr, Jn.jW, if_neg (by rw [pgs_len]; omega), if_pos]
        intro qa
        apply hr
        rw [hrb]
        have := qa ⟨c, p⟩ (by rw [hpp]; simp)
        obtain ⟨g1, g2, g3⟩ := this
        dsimp only at g1 g2 g3
        simp only [Bool.and_eq_true, decide_eq_true_eq]
        omega
    obtain ⟨D2, n2, m2, hw1, h2, hm2, hn2⟩ := hw
    have k2 := h2.ok
    have hac2 := h2.acts
    have hje : jErr D2 c = if decide (0 ≤ c) && decide (c < (K0 : Int)) then 0 else 1 := by
      have hl2 := h2.len
      rw [jErr, h2.rest.off]
      by_cases hb : jBad D2 c
      · rw [if_pos hb, if_neg]
        unfold jBad at hb
        simp only [Bool.and_eq_true, decide_eq_true_eq]
        omega
      · rw [if_neg hb, if_neg (by decide : ¬ (false = true)), if_pos]
        unfold jBad at hb
        simp only [Bool.and_eq_true, decide_eq_true_eq]
        omega
    refine wv h (r_assign h rfl) rfl ?_
    clear h a w; intro a w h
    refine wnil (c_then ?_)
    refine c_seq (c_region ?_)
    refine wv h (r_move h rfl) rfl ?_
    clear h a w; intro a w h
    refine wv h (r_build h K.u_journal_Page K.z_journal_Page K.pl_journal_Page rfl rfl) rfl ?_
    clear h a w; intro a w h
    refine wv h (r_move h rfl) rfl ?_
    clear h a w; intro a w h
    refine wv h (r_move h rfl) rfl ?_
    clear h a w; intro a w h
    refine wv h (r_build h K.u_journal_Page K.z_journal_Page K.pl_journal_Page rfl rfl) rfl ?_
    clear h a w; intro a w h
    refine wl rfl (op_buildSlice (cells := pl.flatMap cellsPg) h K.u_S_journal_Page K.sz_journal_Page K.z_journal_Page rfl rfl rfl rfl (by rw [hpl]; rfl) (by intro v hv; simp only [List.mem_cons, List.not_mem_nil, or_false] at hv; rcases hv with rfl | rfl <;> rfl) rfl ?_)
    clear h a w; intro b100 a w h
    replace h := h.toOwnM (size := 2) (cells := cellsPg) (N := 2) pl (NF.zero _) rfl (by rw [hpl]; rfl) rfl
    have hov : ∀ x ∈ pl, ViewsB (OwnM 2 cellsPg (.slice (some ⟨b100, 0, none⟩) 2 2) pl :: F) (.slice x.sa x.sl x.sc) x.p := by
      intro x hx
      rw [hpl] at hx
      simp only [List.mem_cons, List.not_mem_nil, or_false] at hx
      rcases hx with rfl | rfl
      · exact ViewsB.nil _
      · exact hp.cons _
    refine wl rfl (op_call h rfl K.go_journal_Journal_Write (jn_Write0 s _ bj b9 n1 D1 _ pl _ 1 rfl k1 (by omega) (by omega) (by exact Views.own 0 rfl) (by exact hov) h.2) rfl ?_)
    clear h a w; intro x a w hx h
    (try simp only [List.set_cons_zero, List.set_cons_succ] at h)
    rw [hw1] at h
    clear hov
    dsimp only at h
    replace h := h.mem (fun z => z.rid 0)
    simp only [List.eraseIdx_cons_zero] at h
    refine wv h (r_assign h rfl) rfl ?_
    clear h a w; intro a w h
    refine wnil (c_then ?_)
    refine c_seq (c_region ?_)
    refine wv h (r_move h rfl) rfl ?_
    clear h a w; intro a w h
    refine wv h (r_move h rfl) rfl ?_
    clear h a w; intro a w h
    first
        | (refine wl rfl (op_call h rfl K.go_journal_Journal_Read (jn_Read s _ _ _ _ _ _ _ 0 rfl (by first | assumption | exact Dk.OkN.ok' (by decide)) h.2) rfl ?_))
        | (refine wl rfl (op_call h rfl K.go_journal_Journal_Read (jn_Read s _ _ _ _ _ _ _ 1 rfl (by first | assumption | exact Dk.OkN.ok' (by decide)) h.2) rfl ?_))
        | (refine wl rfl (op_call h rfl K.go_journal_Journal_Read (jn_Read s _ _ _ _ _ _ _ 2 rfl (by first | assumption | exact Dk.OkN.ok' (by decide)) h.2) rfl ?_))
        | (refine wl rfl (op_call h rfl K.go_journal_Journal_Read (jn_Read s _ _ _ _ _ _ _ 3 rfl (by first | assumption | exact Dk.OkN.ok' (by decide)) h.2) rfl ?_))
        | (refine wl rfl (op_call h rfl K.go_journal_Journal_Read (jn_Read s _ _ _ _ _ _ _ 4 rfl (by first | assumption | exact Dk.OkN.ok' (by decide)) h.2) rfl ?_))
        | (refine wl rfl (op_call h rfl K.go_journal_Journal_Read (jn_Read s _ _ _ _ _ _ _ 5 rfl (by first | assumption | exact Dk.OkN.ok' (by decide)) h.2) rfl ?_))
    clear h a w; intro v105 a w hx h
    (try simp only [List.set_cons_zero, List.set_cons_succ] at h)
    replace h := h.mem (fun z => z.rid 0)
    simp only [List.eraseIdx_cons_zero] at h
    rw [hje] at h
    refine wv h (r_move h rfl) rfl ?_
    clear h a w; intro a w h
    refine wv h (r_extractN h rfl rfl) rfl ?_
    clear h a w; intro a w h
    refine wv h (r_extractN h rfl rfl) rfl ?_
    clear h a w; intro a w h
    refine wv h (r_assign h rfl) rfl ?_
    clear h a w; intro a w h
    refine wv h (r_assign h rfl) rfl ?_
    clear h a w; intro a w h
    refine wnil (c_then ?_)
    refine c_seq (c_region ?_)
    refine wv h (r_assign h rfl) rfl ?_
    clear h a w; intro a w h
    replace h := h.addNilM (size := 2) (cells := cellsPg)
    refine wnil (c_then ?_)
    refine c_seq ?_
    refine c_seq (c_region ?_)
    refine wv h (r_assign h rfl) rfl ?_
    clear h a w; intro a w h
    refine wnil (c_then ?_)
    refine c_block ?_
    refine c_loopX h (X := Nat × Value × List PgV × List HItem) (fun x => [(0, .int .i64 c), (2, bv n), (9, dp bj), (10, .int .i64 0), (16, .int .i64 (K0 : Int)), (17, .bool rb), (18, .int .i64 (if rb = true then 0 else 1)), (20, .int .i64 (if decide (0 ≤ c) && decide (c < (K0 : Int)) then 0 else 1)), (21, x.2.1), (22, .int .i64 (x.1 : Int))])
      (fun x => OwnM 2 cellsPg x.2.1 x.2.2.1 :: JnI bj b9 D2 n2 :: (x.2.2.2 ++ F)) (fun x => x.1 ≤ q ∧ x.2.2.1.length = x.1 ∧ ∀ y ∈ x.2.2.1, ViewsB (x.2.2.2 ++ F) (.slice y.sa y.sl y.sc) y.p ∧ 0 ≤ y.at_ ∧ y.at_ < (K0 : Int) ∧ y.p.length ≤ 64) (fun x => q - x.1) (0, .slice none 0 0, [], []) (h.keep [0, 2, 9, 10, 16, 17, 18, 20, 21, 22])
      ⟨Nat.zero_le _, rfl, fun y hy => by simp at hy⟩ ?_
    clear h a w; intro x a w hx h
    obtain ⟨i, vl, l, G⟩ := x
    obtain ⟨hy1, hy2, hy3⟩ := hx
    dsimp only at hy1 hy2 hy3 h
    as_aux_lemma =>
     refine c_seq ?_
     refine c_seq (c_region ?_)
     refine wv h (r_move h rfl) rfl ?_
     clear h a w; intro a w h
     refine wv h (r_move h rfl) rfl ?_
     clear h a w; intro a w h
     refine wv h (r_bin h rfl rfl (B.rem_u8 (y := 40) (by decide))) rfl ?_
     clear h a w; intro a w h
     refine wv h (r_conv h rfl K.u_uint8 K.u_int (C.i64_u8) ) rfl ?_
     clear h a w; intro a w h
     rw [← hq] at h
     refine wv h (r_bin h rfl rfl (B.lss_int)) rfl ?_
     clear h a w; intro a w h
     refine wnil (c_then ?_)
     first
      | refine c_condD h rfl (fun ht3 => ?_) (fun ht3 => ?_)
      | refine c_condP h rfl (by first | (simp only [Bool.and_eq_true, Bool.or_eq_true, Bool.not_eq_true', decide_eq_true_eq, decide_eq_false_iff_not, ne_eq, Bool.not_eq_eq_eq_not, Bool.not_true, beq_iff_eq, bne_iff_ne]; exact Iff.rfl) | exact Iff.rfl) (fun ht3 => ?_) (fun ht3 => ?_)
     ·
      have hmn := Int.emod_nonneg (i : Int) (b := (K0 : Int)) (by omega)
      have hml := Int.emod_lt_of_pos (i : Int) (b := (K0 : Int)) (by omega)
      refine c_skip ?_
      refine c_then ?_
      refine c_seq ?_
      refine c_block ?_
      refine c_region ?_
      refine wv h (r_move h rfl) rfl ?_
      clear h a w; intro a w h
      refine wv h (r_move h rfl) rfl ?_
      clear h a w; intro a w h
      refine wv h (r_move h rfl) rfl ?_
      clear h a w; intro a w h
      refine wv h (r_bin h rfl rfl (B.rem_i64 (by omega) (by omega))) rfl ?_
      clear h a w; intro a w h
      refine wl rfl (op_buildSlice h K.u_S_uint8 K.sz_uint8 K.z_uint8 rfl rfl rfl rfl rfl (by simp [Value.cells, bv, w32, w64, sv]) rfl ?_)
      clear h a w; intro b119 a w h
      replace h := h.toOwnb [1] (NF.zero _) rfl rfl
      refine wv h (r_build h K.u_journal_Page K.z_journal_Page K.pl_journal_Page rfl rfl) rfl ?_
      clear h a w; intro a w h
      refine wl rfl (op_build1 h K.u_S_journal_Page K.sz_journal_Page K.z_journal_Page rfl rfl rfl (by first | exact Row.len _ | rfl | assumption | (simp; done) | (simp; omega) | omega) rfl ?_)
      clear h a w; intro b121 a w h
      refine wl rfl (op_appendR1 (cells := cellsPg) (l := l) (u := (⟨(i : Int) % (K0 : Int), some ⟨b119, 0, none⟩, 1, 1, [1]⟩ : PgV)) h rfl rfl K.u_S_journal_Page K.sz_journal_Page K.z_journal_Page rfl rfl 1 rfl (by omega) rfl ?_)
      clear h a w; intro v122 a w h
      simp only [List.set_cons_zero, List.set_cons_succ] at h
      refine wv h (r_assign h rfl) rfl ?_
      clear h a w; intro a w h
      refine wnil ?_
      refine b_normal ?_
      refine c_then ?_
      refine c_region ?_
      refine wv h (r_move h rfl) rfl ?_
      clear h a w; intro a w h
      refine wv h (r_bin h rfl rfl (B.add_i64 (by omega) (by omega))) rfl ?_
      clear h a w; intro a w h
      refine wv h (r_assign h rfl) rfl ?_
      clear h a w; intro a w h
      refine wnil ?_
      exact ⟨(i + 1, v122, l ++ [(⟨(i : Int) % (K0 : Int), some ⟨b119, 0, none⟩, 1, 1, [1]⟩ : PgV)], OwnB (.slice (some ⟨b119, 0, none⟩) 1 1) [1] :: G), h.mem (fun z => z.back 2 (by show 2 ≤ (G ++ F).length + 2; omega)) |>.keep [0, 2, 9, 10, 16, 17, 18, 20, 21, 22], ⟨by show i + 1 ≤ q; omega, by simp [hy2], fun y hy => by
        rcases List.mem_append.1 hy with e | e
        · exact ⟨(hy3 y e).1.cons _, (hy3 y e).2⟩
        · rw [List.mem_singleton] at e
          subst e
          exact ⟨ViewsB.own 0 rfl, hmn, hml, by dsimp only; decide⟩⟩, by show q - (i + 1) < q - i; omega⟩
     ·
      have hll : l.length ≤ 40 := by omega
      obtain ⟨g1, g2, g3, g4⟩ := errs_write (l := pgs l) h2 (fun x hx => by
        obtain ⟨y, hy, rfl⟩ := List.mem_map.1 hx
        rw [hm2]; exact (hy3 y hy).2) (by decide) (by omega)
      rw [pgs_len] at g1
      rw [hm2] at g4
      refine c_exit ?_
      refine e_then ?_
      refine e_then ?_
      refine e_here ?_
      refine c_then ?_
      refine c_seq (c_region ?_)
      refine wv h (r_move h rfl) rfl ?_
      clear h a w; intro a w h
      refine wv h (r_move h rfl) rfl ?_
      clear h a w; intro a w h
      refine wl rfl (op_call h rfl K.go_journal_Journal_Write (jn_Write0 s _ bj b9 n2 D2 vl l _ 1 rfl k2 (by omega) (by omega) (by exact Views.own 0 rfl) (by exact fun x hx => (hy3 x hx).1.cons _) h.2) rfl ?_)
      clear h a w; intro x a w hx h
      (try simp only [List.set_cons_zero, List.set_cons_succ] at h)
      rw [g1] at h
      generalize (Jn.jW D2 n2 (pgs l)).1 = D3 at *
      generalize (Jn.jW D2 n2 (pgs l)).2.1 = n3 at *
      refine wv h (r_assign h rfl) rfl ?_
      clear h a w; intro a w h
      refine wnil (c_then ?_)
      refine c_seq (c_region ?_)
      refine wv h (r_move h rfl) rfl ?_
      clear h a w; intro a w h
      refine wv h (r_bin h rfl rfl (B.eql_int)) rfl ?_
      clear h a w; intro a w h
      refine wv h (r_move h rfl) rfl ?_
      clear h a w; intro a w h
      refine wvG h (by first | exact .t rfl | exact .f rfl | exact .gt rfl | exact .gf rfl) (fun hg => by (try simp only [↓gval_on hg, ↓gval_and hg] at h); (have hg2 := hg; (try simp only [Bool.and_eq_true, Bool.or_eq_true, Bool.not_eq_true', decide_eq_true_eq, decide_eq_false_iff_not] at hg2)); first | exact r_move h rfl) rfl ?_
      clear h a w; intro a w h
      refine wcG h (by first | exact .t rfl | exact .f rfl | exact .gt rfl | exact .gf rfl) K.go_journal_Journal_Sectors (fun hg => by (try simp only [↓gval_on hg, ↓gval_and hg]); (have hg2 := hg; (try simp only [Bool.and_eq_true, Bool.or_eq_true, Bool.not_eq_true', decide_eq_true_eq, decide_eq_false_iff_not] at hg2)); exact ⟨_, rfl, (by first | exact jn_Sectors s _ _ _ _ _ _ 0 rfl (by first | assumption | exact Dk.OkN.ok' (by decide)) h.2 | exact jn_Sectors s _ _ _ _ _ _ 1 rfl (by first | assumption | exact Dk.OkN.ok' (by decide)) h.2 | exact jn_Sectors s _ _ _ _ _ _ 2 rfl (by first | assumption | exact Dk.OkN.ok' (by decide)) h.2 | exact jn_Sectors s _ _ _ _ _ _ 3 rfl (by first | assumption | exact Dk.OkN.ok' (by decide)) h.2 | exact jn_Sectors s _ _ _ _ _ _ 4 rfl (by first | assumption | exact Dk.OkN.ok' (by decide)) h.2 | exact jn_Sectors s _ _ _ _ _ _ 5 rfl (by first | assumption | exact Dk.OkN.ok' (by decide)) h.2)⟩) rfl ?_
      clear h a w; intro a w h
      refine wvG h (by first | exact .t rfl | exact .f rfl | exact .gt rfl | exact .gf rfl) (fun hg => by (try simp only [↓gval_on hg, ↓gval_and hg] at h); (have hg2 := hg; (try simp only [Bool.and_eq_true, Bool.or_eq_true, Bool.not_eq_true', decide_eq_true_eq, decide_eq_false_iff_not] at hg2)); first | exact r_move h rfl) rfl ?_
      clear h a w; intro a w h
      refine wvG h (by first | exact .t rfl | exact .f rfl | exact .gt rfl | exact .gf rfl) (fun hg => by (try simp only [↓gval_on hg, ↓gval_and hg] at h); (have hg2 := hg; (try simp only [Bool.and_eq_true, Bool.or_eq_true, Bool.not_eq_true', decide_eq_true_eq, decide_eq_false_iff_not] at hg2)); first | exact r_bin h rfl rfl (B.eql_int)) rfl ?_
      clear h a w; intro a w h
      first
            | (refine wv h (r_pickA h rfl rfl rfl) rfl ?_)
            | (refine wv h (r_pickO h rfl rfl rfl) rfl ?_)
            | (refine wv h (r_pick_true h rfl rfl) rfl ?_)
            | (refine wv h (r_pick_false h rfl rfl) rfl ?_)
            | (refine wv h (r_pick h rfl rfl rfl) rfl ?_)
      clear h a w; intro a w h
      refine wv h (r_move h rfl) rfl ?_
      clear h a w; intro a w h
      refine wvG h (by first | exact .t rfl | exact .f rfl | exact .gt rfl | exact .gf rfl) (fun hg => by (try simp only [↓gval_on hg, ↓gval_and hg] at h); (have hg2 := hg; (try simp only [Bool.and_eq_true, Bool.or_eq_true, Bool.not_eq_true', decide_eq_true_eq, decide_eq_false_iff_not] at hg2)); first | exact r_move h rfl) rfl ?_
      clear h a w; intro a w h
      refine wcG h (by first | exact .t rfl | exact .f rfl | exact .gt rfl | exact .gf rfl) K.go_journal_Journal_On (fun hg => by (try simp only [↓gval_on hg, ↓gval_and hg]); (have hg2 := hg; (try simp only [Bool.and_eq_true, Bool.or_eq_true, Bool.not_eq_true', decide_eq_true_eq, decide_eq_false_iff_not] at hg2)); exact ⟨_, rfl, (by first | exact jn_On s _ _ _ _ _ _ 0 rfl h.2 | exact jn_On s _ _ _ _ _ _ 1 rfl h.2 | exact jn_On s _ _ _ _ _ _ 2 rfl h.2 | exact jn_On s _ _ _ _ _ _ 3 rfl h.2 | exact jn_On s _ _ _ _ _ _ 4 rfl h.2 | exact jn_On s _ _ _ _ _ _ 5 rfl h.2)⟩) rfl ?_
      clear h a w; intro a w h
      first
            | (refine wv h (r_pickA h rfl rfl rfl) rfl ?_)
            | (refine wv h (r_pickO h rfl rfl rfl) rfl ?_)
            | (refine wv h (r_pick_true h rfl rfl) rfl ?_)
            | (refine wv h (r_pick_false h rfl rfl) rfl ?_)
            | (refine wv h (r_pick h rfl rfl rfl) rfl ?_)
      clear h a w; intro a w h
      refine wv h (r_move h rfl) rfl ?_
      clear h a w; intro a w h
      refine wvG h (by first | exact .t rfl | exact .f rfl | exact .gt rfl | exact .gf rfl) (fun hg => by (try simp only [↓gval_on hg, ↓gval_and hg] at h); (have hg2 := hg; (try simp only [Bool.and_eq_true, Bool.or_eq_true, Bool.not_eq_true', decide_eq_true_eq, decide_eq_false_iff_not] at hg2)); first | exact r_move h rfl) rfl ?_
      clear h a w; intro a w h
      refine wvG h (by first | exact .t rfl | exact .f rfl | exact .gt rfl | exact .gf rfl) (fun hg => by (try simp only [↓gval_on hg, ↓gval_and hg] at h); (have hg2 := hg; (try simp only [Bool.and_eq_true, Bool.or_eq_true, Bool.not_eq_true', decide_eq_true_eq, decide_eq_false_iff_not] at hg2)); first | exact r_bin h rfl rfl (B.eql_int)) rfl ?_
      clear h a w; intro a w h
      refine wvG h (by first | exact .t rfl | exact .f rfl | exact .gt rfl | exact .gf rfl) (fun hg => by (try simp only [↓gval_on hg, ↓gval_and hg] at h); (have hg2 := hg; (try simp only [Bool.and_eq_true, Bool.or_eq_true, Bool.not_eq_true', decide_eq_true_eq, decide_eq_false_iff_not] at hg2)); first | exact r_move h rfl) rfl ?_
      clear h a w; intro a w h
      refine wvG h (by first | exact .t rfl | exact .f rfl | exact .gt rfl | exact .gf rfl) (fun hg => by (try simp only [↓gval_on hg, ↓gval_and hg] at h); (have hg2 := hg; (try simp only [Bool.and_eq_true, Bool.or_eq_true, Bool.not_eq_true', decide_eq_true_eq, decide_eq_false_iff_not] at hg2)); first | exact r_booleq h K.u_bool rfl rfl) rfl ?_
      clear h a w; intro a w h
      first
            | (refine wv h (r_pickA h rfl rfl rfl) rfl ?_)
            | (refine wv h (r_pickO h rfl rfl rfl) rfl ?_)
            | (refine wv h (r_pick_true h rfl rfl) rfl ?_)
            | (refine wv h (r_pick_false h rfl rfl) rfl ?_)
            | (refine wv h (r_pick h rfl rfl rfl) rfl ?_)
      clear h a w; intro a w h
      refine wv h (r_move h rfl) rfl ?_
      clear h a w; intro a w h
      refine wvG h (by first | exact .t rfl | exact .f rfl | exact .gt rfl | exact .gf rfl) (fun hg => by (try simp only [↓gval_on hg, ↓gval_and hg] at h); (have hg2 := hg; (try simp only [Bool.and_eq_true, Bool.or_eq_true, Bool.not_eq_true', decide_eq_true_eq, decide_eq_false_iff_not] at hg2)); first | exact r_move h rfl) rfl ?_
      clear h a w; intro a w h
      refine wvG h (by first | exact .t rfl | exact .f rfl | exact .gt rfl | exact .gf rfl) (fun hg => by (try simp only [↓gval_on hg, ↓gval_and hg] at h); (have hg2 := hg; (try simp only [Bool.and_eq_true, Bool.or_eq_true, Bool.not_eq_true', decide_eq_true_eq, decide_eq_false_iff_not] at hg2)); first | exact r_move h rfl) rfl ?_
      clear h a w; intro a w h
      refine wvG h (by first | exact .t rfl | exact .f rfl | exact .gt rfl | exact .gf rfl) (fun hg => by (try simp only [↓gval_on hg, ↓gval_and hg] at h); (have hg2 := hg; (try simp only [Bool.and_eq_true, Bool.or_eq_true, Bool.not_eq_true', decide_eq_true_eq, decide_eq_false_iff_not] at hg2)); first | exact r_move h rfl) rfl ?_
      clear h a w; intro a w h
      refine wvG h (by first | exact .t rfl | exact .f rfl | exact .gt rfl | exact .gf rfl) (fun hg => by (try simp only [↓gval_on hg, ↓gval_and hg] at h); (have hg2 := hg; (try simp only [Bool.and_eq_true, Bool.or_eq_true, Bool.not_eq_true', decide_eq_true_eq, decide_eq_false_iff_not] at hg2)); first | exact r_bin h rfl rfl (B.eql_int)) rfl ?_
      clear h a w; intro a w h
      refine wvG h (by first | exact .t rfl | exact .f rfl | exact .gt rfl | exact .gf rfl) (fun hg => by (try simp only [↓gval_on hg, ↓gval_and hg] at h); (have hg2 := hg; (try simp only [Bool.and_eq_true, Bool.or_eq_true, Bool.not_eq_true', decide_eq_true_eq, decide_eq_false_iff_not] at hg2)); first | exact r_pickA h rfl rfl rfl | exact r_pickO h rfl rfl rfl | exact r_pick_true h rfl rfl | exact r_pick_false h rfl rfl | exact r_pick h rfl rfl rfl) rfl ?_
      clear h a w; intro a w h
      first
            | (refine wv h (r_pickA h rfl rfl rfl) rfl ?_)
            | (refine wv h (r_pickO h rfl rfl rfl) rfl ?_)
            | (refine wv h (r_pick_true h rfl rfl) rfl ?_)
            | (refine wv h (r_pick_false h rfl rfl) rfl ?_)
            | (refine wv h (r_pick h rfl rfl rfl) rfl ?_)
      clear h a w; intro a w h
      refine wv h (r_move h rfl) rfl ?_
      clear h a w; intro a w h
      refine wvG h (by first | exact .t rfl | exact .f rfl | exact .gt rfl | exact .gf rfl) (fun hg => by (try simp only [↓gval_on hg, ↓gval_and hg] at h); (have hg2 := hg; (try simp only [Bool.and_eq_true, Bool.or_eq_true, Bool.not_eq_true', decide_eq_true_eq, decide_eq_false_iff_not] at hg2)); first | exact r_move h rfl) rfl ?_
      clear h a w; intro a w h
      refine wvG h (by first | exact .t rfl | exact .f rfl | exact .gt rfl | exact .gf rfl) (fun hg => by (try simp only [↓gval_on hg, ↓gval_and hg] at h); (have hg2 := hg; (try simp only [Bool.and_eq_true, Bool.or_eq_true, Bool.not_eq_true', decide_eq_true_eq, decide_eq_false_iff_not] at hg2)); first | exact r_bin h rfl rfl (B.eql_int)) rfl ?_
      clear h a w; intro a w h
      refine wvG h (by first | exact .t rfl | exact .f rfl | exact .gt rfl | exact .gf rfl) (fun hg => by (try simp only [↓gval_on hg, ↓gval_and hg] at h); (have hg2 := hg; (try simp only [Bool.and_eq_true, Bool.or_eq_true, Bool.not_eq_true', decide_eq_true_eq, decide_eq_false_iff_not] at hg2)); first | exact r_move h rfl) rfl ?_
      clear h a w; intro a w h
      refine wvG h (by first | exact .t rfl | exact .f rfl | exact .gt rfl | exact .gf rfl) (fun hg => by (try simp only [↓gval_on hg, ↓gval_and hg] at h); (have hg2 := hg; (try simp only [Bool.and_eq_true, Bool.or_eq_true, Bool.not_eq_true', decide_eq_true_eq, decide_eq_false_iff_not] at hg2)); first | exact r_bin h rfl rfl (B.geq_int)) rfl ?_
      clear h a w; intro a w h
      refine wvG h (by first | exact .t rfl | exact .f rfl | exact .gt rfl | exact .gf rfl) (fun hg => by (try simp only [↓gval_on hg, ↓gval_and hg] at h); (have hg2 := hg; (try simp only [Bool.and_eq_true, Bool.or_eq_true, Bool.not_eq_true', decide_eq_true_eq, decide_eq_false_iff_not] at hg2)); first | exact r_move h rfl) rfl ?_
      clear h a w; intro a w h
      refine wvG h (by first | exact .t rfl | exact .f rfl | exact .gt rfl | exact .gf rfl) (fun hg => by (try simp only [↓gval_on hg, ↓gval_and hg] at h); (have hg2 := hg; (try simp only [Bool.and_eq_true, Bool.or_eq_true, Bool.not_eq_true', decide_eq_true_eq, decide_eq_false_iff_not] at hg2)); first | exact r_move h rfl) rfl ?_
      clear h a w; intro a w h
      refine wvG h (by first | exact .t rfl | exact .f rfl | exact .gt rfl | exact .gf rfl) (fun hg => by (try simp only [↓gval_on hg, ↓gval_and hg] at h); (have hg2 := hg; (try simp only [Bool.and_eq_true, Bool.or_eq_true, Bool.not_eq_true', decide_eq_true_eq, decide_eq_false_iff_not] at hg2)); first | exact r_move h rfl) rfl ?_
      clear h a w; intro a w h
      refine wvG h (by first | exact .t rfl | exact .f rfl | exact .gt rfl | exact .gf rfl) (fun hg => by (try simp only [↓gval_on hg, ↓gval_and hg] at h); (have hg2 := hg; (try simp only [Bool.and_eq_true, Bool.or_eq_true, Bool.not_eq_true', decide_eq_true_eq, decide_eq_false_iff_not] at hg2)); first | exact r_bin h rfl rfl (B.lss_int)) rfl ?_
      clear h a w; intro a w h
      refine wvG h (by first | exact .t rfl | exact .f rfl | exact .gt rfl | exact .gf rfl) (fun hg => by (try simp only [↓gval_on hg, ↓gval_and hg] at h); (have hg2 := hg; (try simp only [Bool.and_eq_true, Bool.or_eq_true, Bool.not_eq_true', decide_eq_true_eq, decide_eq_false_iff_not] at hg2)); first | exact r_pickA h rfl rfl rfl | exact r_pickO h rfl rfl rfl | exact r_pick_true h rfl rfl | exact r_pick_false h rfl rfl | exact r_pick h rfl rfl rfl) rfl ?_
      clear h a w; intro a w h
      refine wvG h (by first | exact .t rfl | exact .f rfl | exact .gt rfl | exact .gf rfl) (fun hg => by (try simp only [↓gval_on hg, ↓gval_and hg] at h); (have hg2 := hg; (try simp only [Bool.and_eq_true, Bool.or_eq_true, Bool.not_eq_true', decide_eq_true_eq, decide_eq_false_iff_not] at hg2)); first | exact r_booleq h K.u_bool rfl rfl) rfl ?_
      clear h a w; intro a w h
      first
            | (refine wv h (r_pickA h rfl rfl rfl) rfl ?_)
            | (refine wv h (r_pickO h rfl rfl rfl) rfl ?_)
            | (refine wv h (r_pick_true h rfl rfl) rfl ?_)
            | (refine wv h (r_pick_false h rfl rfl) rfl ?_)
            | (refine wv h (r_pick h rfl rfl rfl) rfl ?_)
      clear h a w; intro a w h
      refine wv h (r_move h rfl) rfl ?_
      clear h a w; intro a w h
      refine wvG h (by first | exact .t rfl | exact .f rfl | exact .gt rfl | exact .gf rfl) (fun hg => by (try simp only [↓gval_on hg, ↓gval_and hg] at h); (have hg2 := hg; (try simp only [Bool.and_eq_true, Bool.or_eq_true, Bool.not_eq_true', decide_eq_true_eq, decide_eq_false_iff_not] at hg2)); first | exact r_move h rfl) rfl ?_
      clear h a w; intro a w h
      refine wvG h (by first | exact .t rfl | exact .f rfl | exact .gt rfl | exact .gf rfl) (fun hg => by (try simp only [↓gval_on hg, ↓gval_and hg] at h); (have hg2 := hg; (try simp only [Bool.and_eq_true, Bool.or_eq_true, Bool.not_eq_true', decide_eq_true_eq, decide_eq_false_iff_not] at hg2)); first | exact r_bin h rfl rfl (B.eql_int)) rfl ?_
      clear h a w; intro a w h
      refine wvG h (by first | exact .t rfl | exact .f rfl | exact .gt rfl | exact .gf rfl) (fun hg => by (try simp only [↓gval_on hg, ↓gval_and hg] at h); (have hg2 := hg; (try simp only [Bool.and_eq_true, Bool.or_eq_true, Bool.not_eq_true', decide_eq_true_eq, decide_eq_false_iff_not] at hg2)); first | exact r_move h rfl) rfl ?_
      clear h a w; intro a w h
      refine wvG h (by first | exact .t rfl | exact .f rfl | exact .gt rfl | exact .gf rfl) (fun hg => by (try simp only [↓gval_on hg, ↓gval_and hg] at h); (have hg2 := hg; (try simp only [Bool.and_eq_true, Bool.or_eq_true, Bool.not_eq_true', decide_eq_true_eq, decide_eq_false_iff_not] at hg2)); first | exact r_lenV h rfl K.u_S_journal_Page (by first | exact Views.own 0 rfl | exact Views.own 1 rfl | exact Views.own 2 rfl | exact Views.own 3 rfl | exact Views.own 4 rfl | exact Views.own 5 rfl | assumption | exact Views.of_drop 1 (by assumption) | exact Views.of_drop 2 (by assumption) | exact Views.of_drop 3 (by assumption) | exact Views.of_drop 4 (by assumption) | exact Views.of_drop 5 (by assumption) | exact Views.of_drop 6 (by assumption) | exact Views.of_drop 7 (by assumption) | exact Views.of_drop 8 (by assumption) | exact Views.of_drop 9 (by assumption) | exact Views.of_drop 10 (by assumption) | exact Views.of_drop 11 (by assumption) | exact Views.of_drop 12 (by assumption))) rfl ?_
      clear h a w; intro a w h
      refine wvG h (by first | exact .t rfl | exact .f rfl | exact .gt rfl | exact .gf rfl) (fun hg => by (try simp only [↓gval_on hg, ↓gval_and hg] at h); (have hg2 := hg; (try simp only [Bool.and_eq_true, Bool.or_eq_true, Bool.not_eq_true', decide_eq_true_eq, decide_eq_false_iff_not] at hg2)); first | exact r_bin h rfl rfl (B.leq_int)) rfl ?_
      clear h a w; intro a w h
      refine wvG h (by first | exact .t rfl | exact .f rfl | exact .gt rfl | exact .gf rfl) (fun hg => by (try simp only [↓gval_on hg, ↓gval_and hg] at h); (have hg2 := hg; (try simp only [Bool.and_eq_true, Bool.or_eq_true, Bool.not_eq_true', decide_eq_true_eq, decide_eq_false_iff_not] at hg2)); first | exact r_booleq h K.u_bool rfl rfl) rfl ?_
      clear h a w; intro a w h
      first
            | (refine wv h (r_pickA h rfl rfl rfl) rfl ?_)
            | (refine wv h (r_pickO h rfl rfl rfl) rfl ?_)
            | (refine wv h (r_pick_true h rfl rfl) rfl ?_)
            | (refine wv h (r_pick_false h rfl rfl) rfl ?_)
            | (refine wv h (r_pick h rfl rfl rfl) rfl ?_)
      clear h a w; intro a w h
      refine wv h (r_move h rfl) rfl ?_
      clear h a w; intro a w h
      refine wvG h (by first | exact .t rfl | exact .f rfl | exact .gt rfl | exact .gf rfl) (fun hg => by (try simp only [↓gval_on hg, ↓gval_and hg] at h); (have hg2 := hg; (try simp only [Bool.and_eq_true, Bool.or_eq_true, Bool.not_eq_true', decide_eq_true_eq, decide_eq_false_iff_not] at hg2)); first | exact r_move h rfl) rfl ?_
      clear h a w; intro a w h
      refine wvG h (by first | exact .t rfl | exact .f rfl | exact .gt rfl | exact .gf rfl) (fun hg => by (try simp only [↓gval_on hg, ↓gval_and hg] at h); (have hg2 := hg; (try simp only [Bool.and_eq_true, Bool.or_eq_true, Bool.not_eq_true', decide_eq_true_eq, decide_eq_false_iff_not] at hg2)); first | exact r_lenV h rfl K.u_S_journal_Page (by first | exact Views.own 0 rfl | exact Views.own 1 rfl | exact Views.own 2 rfl | exact Views.own 3 rfl | exact Views.own 4 rfl | exact Views.own 5 rfl | assumption | exact Views.of_drop 1 (by assumption) | exact Views.of_drop 2 (by assumption) | exact Views.of_drop 3 (by assumption) | exact Views.of_drop 4 (by assumption) | exact Views.of_drop 5 (by assumption) | exact Views.of_drop 6 (by assumption) | exact Views.of_drop 7 (by assumption) | exact Views.of_drop 8 (by assumption) | exact Views.of_drop 9 (by assumption) | exact Views.of_drop 10 (by assumption) | exact Views.of_drop 11 (by assumption) | exact Views.of_drop 12 (by assumption))) rfl ?_
      clear h a w; intro a w h
      refine wvG h (by first | exact .t rfl | exact .f rfl | exact .gt rfl | exact .gf rfl) (fun hg => by (try simp only [↓gval_on hg, ↓gval_and hg] at h); (have hg2 := hg; (try simp only [Bool.and_eq_true, Bool.or_eq_true, Bool.not_eq_true', decide_eq_true_eq, decide_eq_false_iff_not] at hg2)); first | exact r_bin h rfl rfl (B.leq_int)) rfl ?_
      clear h a w; intro a w h
      refine wvG h (by first | exact .t rfl | exact .f rfl | exact .gt rfl | exact .gf rfl) (fun hg => by (try simp only [↓gval_on hg, ↓gval_and hg] at h); (have hg2 := hg; (try simp only [Bool.and_eq_true, Bool.or_eq_true, Bool.not_eq_true', decide_eq_true_eq, decide_eq_false_iff_not] at hg2)); first | exact r_move h rfl) rfl ?_
      clear h a w; intro a w h
      refine wvG h (by first | exact .t rfl | exact .f rfl | exact .gt rfl | exact .gf rfl) (fun hg => by (try simp only [↓gval_on hg, ↓gval_and hg] at h); (have hg2 := hg; (try simp only [Bool.and_eq_true, Bool.or_eq_true, Bool.not_eq_true', decide_eq_true_eq, decide_eq_false_iff_not] at hg2)); first | exact r_move h rfl) rfl ?_
      clear h a w; intro a w h
      refine wvG h (by first | exact .t rfl | exact .f rfl | exact .gt rfl | exact .gf rfl) (fun hg => by (try simp only [↓gval_on hg, ↓gval_and hg] at h); (have hg2 := hg; (try simp only [Bool.and_eq_true, Bool.or_eq_true, Bool.not_eq_true', decide_eq_true_eq, decide_eq_false_iff_not] at hg2)); first | exact r_bin h rfl rfl (B.eql_int)) rfl ?_
      clear h a w; intro a w h
      refine wvG h (by first | exact .t rfl | exact .f rfl | exact .gt rfl | exact .gf rfl) (fun hg => by (try simp only [↓gval_on hg, ↓gval_and hg] at h); (have hg2 := hg; (try simp only [Bool.and_eq_true, Bool.or_eq_true, Bool.not_eq_true', decide_eq_true_eq, decide_eq_false_iff_not] at hg2)); first | exact r_pickA h rfl rfl rfl | exact r_pickO h rfl rfl rfl | exact r_pick_true h rfl rfl | exact r_pick_false h rfl rfl | exact r_pick h rfl rfl rfl) rfl ?_
      clear h a w; intro a w h
      first
            | (refine wv h (r_pickA h rfl rfl rfl) rfl ?_)
            | (refine wv h (r_pickO h rfl rfl rfl) rfl ?_)
            | (refine wv h (r_pick_true h rfl rfl) rfl ?_)
            | (refine wv h (r_pick_false h rfl rfl) rfl ?_)
            | (refine wv h (r_pick h rfl rfl rfl) rfl ?_)
      clear h a w; intro a w h
      refine wv h (r_assign h rfl) rfl ?_
      clear h a w; intro a w h
      refine wnil (c_then ?_)
      refine c_ret ?_
      refine ret1 h rfl rfl ⟨(), ret_true ?_, K.Sat.dropApp (h.2.drop 2), trivial⟩
      have e1 : (D3.safe.length : Int) - 49 = (K0 : Int) := by omega
      rw [g3, e1]
      clear hrb hje h
      generalize (decide (0 ≤ c) && decide (c < (K0 : Int))) = cb
      cases rb <;> cases cb <;> by_cases q24 : 24 < l.length <;> simp [q24] <;> omega

theorem journalErrs (s w : World) (c : Int) (pv : Value) (p : List UInt8) (n sec : UInt8) (F : List HItem) (hp : ViewsB F pv p) (hs : Sat s w F) :
    Calls P n_law05_JournalErrs #[.int .i64 c, pv, bv n, bv sec] w (Ret s (fun _ : Unit => .bool true) (fun _ => F) (fun _ => True)) := by
  by_cases h : sec ≤ 49
  · exact errsSmall s w c pv p n sec F hp h hs
  · exact errsBig s w c pv p n sec F hp h hs
end Go.Proofs.K
