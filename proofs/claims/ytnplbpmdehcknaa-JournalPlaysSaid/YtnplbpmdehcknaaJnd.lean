/- The contracts of package journal: open, write. -/
import Derived.Test.YtnplbpmdehcknaaJnb
import Derived.Test.YtnplbpmdehcknaaJnc
set_option linter.unusedVariables false
set_option linter.unusedSimpArgs false
set_option maxRecDepth 10000
set_option maxHeartbeats 2000000
namespace Go.Sl
theorem Sat.dropMid {s w : World} {I : HItem} {G F : List HItem} (h : Sat s w (I :: (G ++ F))) : Sat s w (I :: F) := by
  have h2 : Sat s w (G ++ I :: F) := h.perm List.perm_middle.symm
  have := h2.drop G.length
  rwa [List.drop_left] at this
theorem OkV.cons {R : List HItem} {l : List PgV} (h : OkV R l) (I : HItem) : OkV (I :: R) l := fun x hx => ⟨(h x hx).1.cons _, (h x hx).2⟩
theorem OkV.prep {R : List HItem} {l : List PgV} (h : OkV R l) (G : List HItem) : OkV (G ++ R) l := fun x hx => ⟨(h x hx).1.prep G, (h x hx).2⟩
def Jn.good (N : Nat) (x : Pg) : Prop := 0 ≤ x.at_ ∧ x.at_ < (N : Int) - 49 ∧ x.p.length ≤ 64
instance (N : Nat) (x : Pg) : Decidable (Jn.good N x) := by unfold Jn.good; infer_instance
/-- what Write does -/
def Jn.jW (D : Dk) (n : Nat) (l : List Pg) : Dk × Nat × Int :=
  if 24 < l.length then (D, n, 5) else if ¬ ∀ x ∈ l, Jn.good D.safe.length x then (D, n, 1) else if l.length = 0 then (D, n, 0) else
  if (Jn.runW D (Jn.layW n l)).2 = 0 then ((Jn.runW (Jn.runW D (Jn.layW n l)).1 (Jn.applyW l)).1, n + 1, (Jn.runW (Jn.runW D (Jn.layW n l)).1 (Jn.applyW l)).2) else ((Jn.runW D (Jn.layW n l)).1, n, (Jn.runW D (Jn.layW n l)).2)
end Go.Sl
namespace Go.Proofs.K
open Go.Sl
attribute [local irreducible] Go.Sl.Own Go.Sl.Blk Go.Sl.Sep Go.Sl.Ex Go.Sl.Fact
attribute [local irreducible] DiskI

theorem jn_Open_nil (s w : World) (F : List HItem) (hs : Sat s w F) :
    Calls P n_journal_Open #[dnil] w (Ret s (fun _ : Unit => .tuple #[dnil, .int .i64 1]) (fun _ => F) (fun _ => True)) := by
  refine enter K.fn_journal_Open rfl K.nt_journal_Open rfl hs ?_
  clear hs w; intro a w h
  refine c_seq (c_region ?_)
  refine wv h (r_assign h rfl) rfl ?_
  clear h a w; intro a w h
  refine wv h (r_assign h rfl) rfl ?_
  clear h a w; intro a w h
  refine wnil (c_then ?_)
  refine c_seq ?_
  refine c_seq (c_region ?_)
  refine wv h (r_move h rfl) rfl ?_
  clear h a w; intro a w h
  refine wl rfl (op_call h rfl K.go_disk_Disk_Sectors (disk_Sectors_nil s _ _ h.2) rfl ?_)
  clear h a w; intro x a w hx h
  (try simp only [List.set_cons_zero, List.set_cons_succ] at h)
  refine wv h (r_bin h rfl rfl (B.leq_int)) rfl ?_
  clear h a w; intro a w h
  refine wnil (c_then ?_)
  first
   | refine c_condD h rfl (fun ht1 => ?_) (fun ht1 => ?_)
   | refine c_condP h rfl (by first | (simp only [Bool.and_eq_true, Bool.or_eq_true, Bool.not_eq_true', decide_eq_true_eq, decide_eq_false_iff_not, ne_eq, Bool.not_eq_eq_eq_not, Bool.not_true, beq_iff_eq, bne_iff_ne]; exact Iff.rfl) | exact Iff.rfl) (fun ht1 => ?_) (fun ht1 => ?_)
  ·
   as_aux_lemma =>
    refine c_seq (c_region ?_)
    refine wv h (r_assign h rfl) rfl ?_
    clear h a w; intro a w h
    refine wv h (r_assign h rfl) rfl ?_
    clear h a w; intro a w h
    refine wnil (c_then ?_)
    refine c_ret ?_
    exact ret2 h rfl rfl rfl ⟨(), rfl, h.2, trivial⟩
  ·
   exfalso; omega
theorem jn_Open_small (s w : World) (b : Nat) (D : Dk) (F : List HItem) (hl : D.safe.length ≤ 49) (hs : Sat s w (DiskI b D :: F)) :
    Calls P n_journal_Open #[dp b] w (Ret s (fun _ : Unit => .tuple #[dnil, .int .i64 1]) (fun _ => DiskI b D :: F) (fun _ => True)) := by
  refine enter K.fn_journal_Open rfl K.nt_journal_Open rfl hs ?_
  clear hs w; intro a w h
  refine c_seq (c_region ?_)
  refine wv h (r_assign h rfl) rfl ?_
  clear h a w; intro a w h
  refine wv h (r_assign h rfl) rfl ?_
  clear h a w; intro a w h
  refine wnil (c_then ?_)
  refine c_seq ?_
  refine c_seq (c_region ?_)
  refine wv h (r_move h rfl) rfl ?_
  clear h a w; intro a w h
  first
    | (refine wl rfl (op_call h rfl K.go_disk_Disk_Sectors (disk_Sectors s _ _ _ _ 0 rfl h.2) rfl ?_))
    | (refine wl rfl (op_call h rfl K.go_disk_Disk_Sectors (disk_Sectors s _ _ _ _ 1 rfl h.2) rfl ?_))
    | (refine wl rfl (op_call h rfl K.go_disk_Disk_Sectors (disk_Sectors s _ _ _ _ 2 rfl h.2) rfl ?_))
    | (refine wl rfl (op_call h rfl K.go_disk_Disk_Sectors (disk_Sectors s _ _ _ _ 3 rfl h.2) rfl ?_))
    | (refine wl rfl (op_call h rfl K.go_disk_Disk_Sectors (disk_Sectors s _ _ _ _ 4 rfl h.2) rfl ?_))
    | (refine wl rfl (op_call h rfl K.go_disk_Disk_Sectors (disk_Sectors s _ _ _ _ 5 rfl h.2) rfl ?_))
  clear h a w; intro x a w hx h
  (try simp only [List.set_cons_zero, List.set_cons_succ] at h)
  refine wv h (r_bin h rfl rfl (B.leq_int)) rfl ?_
  clear h a w; intro a w h
  refine wnil (c_then ?_)
  first
   | refine c_condD h rfl (fun ht1 => ?_) (fun ht1 => ?_)
   | refine c_condP h rfl (by first | (simp only [Bool.and_eq_true, Bool.or_eq_true, Bool.not_eq_true', decide_eq_true_eq, decide_eq_false_iff_not, ne_eq, Bool.not_eq_eq_eq_not, Bool.not_true, beq_iff_eq, bne_iff_ne]; exact Iff.rfl) | exact Iff.rfl) (fun ht1 => ?_) (fun ht1 => ?_)
  ·
   as_aux_lemma =>
    refine c_seq (c_region ?_)
    refine wv h (r_assign h rfl) rfl ?_
    clear h a w; intro a w h
    refine wv h (r_assign h rfl) rfl ?_
    clear h a w; intro a w h
    refine wnil (c_then ?_)
    refine c_ret ?_
    exact ret2 h rfl rfl rfl ⟨(), rfl, h.2, trivial⟩
  ·
   exfalso; omega
theorem jn_Open (s w : World) (b : Nat) (D : Dk) (F : List HItem) (hok : D.ok) (hof : D.off = false) (hl : 49 < D.safe.length) (hac : D.acts + 26 ≤ 1000000000) (hs : Sat s w (DiskI b D :: F)) :
    Calls P n_journal_Open #[dp b] w (Ret s (fun bj : Nat => .tuple #[if (Jn.openN D).2 = 0 then dp bj else dnil, .int .i64 (Jn.openN D).2]) (fun bj => JnI bj b (Jn.openN D).1 (Jn.nextN D.read 49) :: F) (fun _ => True)) := by
  have hsl := hok.2.1
  refine enter K.fn_journal_Open rfl K.nt_journal_Open rfl hs ?_
  clear hs w; intro a w h
  refine c_seq (c_region ?_)
  refine wv h (r_assign h rfl) rfl ?_
  clear h a w; intro a w h
  refine wv h (r_assign h rfl) rfl ?_
  clear h a w; intro a w h
  refine wnil (c_then ?_)
  refine c_seq ?_
  refine c_seq (c_region ?_)
  refine wv h (r_move h rfl) rfl ?_
  clear h a w; intro a w h
  first
    | (refine wl rfl (op_call h rfl K.go_disk_Disk_Sectors (disk_Sectors s _ _ _ _ 0 rfl h.2) rfl ?_))
    | (refine wl rfl (op_call h rfl K.go_disk_Disk_Sectors (disk_Sectors s _ _ _ _ 1 rfl h.2) rfl ?_))
    | (refine wl rfl (op_call h rfl K.go_disk_Disk_Sectors (disk_Sectors s _ _ _ _ 2 rfl h.2) rfl ?_))
    | (refine wl rfl (op_call h rfl K.go_disk_Disk_Sectors (disk_Sectors s _ _ _ _ 3 rfl h.2) rfl ?_))
    | (refine wl rfl (op_call h rfl K.go_disk_Disk_Sectors (disk_Sectors s _ _ _ _ 4 rfl h.2) rfl ?_))
    | (refine wl rfl (op_call h rfl K.go_disk_Disk_Sectors (disk_Sectors s _ _ _ _ 5 rfl h.2) rfl ?_))
  clear h a w; intro x a w hx h
  (try simp only [List.set_cons_zero, List.set_cons_succ] at h)
  refine wv h (r_bin h rfl rfl (B.leq_int)) rfl ?_
  clear h a w; intro a w h
  refine wnil (c_then ?_)
  first
   | refine c_condD h rfl (fun ht1 => ?_) (fun ht1 => ?_)
   | refine c_condP h rfl (by first | (simp only [Bool.and_eq_true, Bool.or_eq_true, Bool.not_eq_true', decide_eq_true_eq, decide_eq_false_iff_not, ne_eq, Bool.not_eq_eq_eq_not, Bool.not_true, beq_iff_eq, bne_iff_ne]; exact Iff.rfl) | exact Iff.rfl) (fun ht1 => ?_) (fun ht1 => ?_)
  ·
   exfalso; omega
  ·
   refine c_skip ?_
   refine c_then ?_
   refine c_seq (c_region ?_)
   refine wv h (r_move h rfl) rfl ?_
   clear h a w; intro a w h
   refine wv h (r_build h K.u_journal_Journal K.z_journal_Journal K.pl_journal_Journal rfl rfl) rfl ?_
   clear h a w; intro a w h
   refine wl rfl (op_box h rfl rfl ?_)
   clear h a w; intro b12 a w h
   try simp only [Value.cells] at h
   refine wv h (r_assign h rfl) rfl ?_
   clear h a w; intro a w h
   refine wnil (c_then ?_)
   refine c_seq (c_region ?_)
   refine wv h (r_move h rfl) rfl ?_
   clear h a w; intro a w h
   replace h := h.mem (JnI_shut (n := 0))
   refine wl rfl (op_call h rfl K.go_journal_Journal_read (jn_read s _ _ b D F hok (by omega) hof h.2) rfl ?_)
   clear h a w; intro x a w hx h
   (try simp only [List.set_cons_zero, List.set_cons_succ] at h)
   obtain ⟨vl, pl, G⟩ := x
   obtain ⟨hx1, hx2⟩ := hx
   dsimp only at hx1 hx2 h
   have hpl : pl.length ≤ 24 := by
     have := Jn.readN_len D.read
     rw [← hx1, pgs_len] at this; exact this
   refine wv h (r_move h rfl) rfl ?_
   clear h a w; intro a w h
   refine wv h (r_extractN h rfl rfl) rfl ?_
   clear h a w; intro a w h
   refine wv h (r_extractN h rfl rfl) rfl ?_
   clear h a w; intro a w h
   refine wv h (r_assign h rfl) rfl ?_
   clear h a w; intro a w h
   refine wv h (r_assign h rfl) rfl ?_
   clear h a w; intro a w h
   refine wnil (c_then ?_)
   refine c_seq ?_
   refine c_seq (c_region ?_)
   refine wv h (r_move h rfl) rfl ?_
   clear h a w; intro a w h
   refine wv h (r_bin h rfl rfl (B.eql_int)) rfl ?_
   clear h a w; intro a w h
   refine wv h (r_move h rfl) rfl ?_
   clear h a w; intro a w h
   refine wvG h (by first | exact .t rfl | exact .f rfl | exact .gt rfl | exact .gf rfl) (fun hg => by (try simp only [↓gval_on hg, ↓gval_and hg] at h); (have hg2 := hg; (try simp only [Bool.and_eq_true, Bool.or_eq_true, Bool.not_eq_true', decide_eq_true_eq, decide_eq_false_iff_not] at hg2)); first | exact r_move h rfl) rfl ?_
   clear h a w; intro a w h
   refine wvG h (by first | exact .t rfl | exact .f rfl | exact .gt rfl | exact .gf rfl) (fun hg => by (try simp only [↓gval_on hg, ↓gval_and hg] at h); (have hg2 := hg; (try simp only [Bool.and_eq_true, Bool.or_eq_true, Bool.not_eq_true', decide_eq_true_eq, decide_eq_false_iff_not] at hg2)); first | exact r_lenV h rfl K.u_S_journal_Page (by first | exact Views.own 0 rfl | exact Views.own 1 rfl | exact Views.own 2 rfl | exact Views.own 3 rfl | exact Views.own 4 rfl | exact Views.own 5 rfl | assumption | exact Views.of_drop 1 (by assumption) | exact Views.of_drop 2 (by assumption) | exact Views.of_drop 3 (by assumption) | exact Views.of_drop 4 (by assumption) | exact Views.of_drop 5 (by assumption) | exact Views.of_drop 6 (by assumption) | exact Views.of_drop 7 (by assumption) | exact Views.of_drop 8 (by assumption) | exact Views.of_drop 9 (by assumption) | exact Views.of_drop 10 (by assumption) | exact Views.of_drop 11 (by assumption) | exact Views.of_drop 12 (by assumption))) rfl ?_
   clear h a w; intro a w h
   refine wvG h (by first | exact .t rfl | exact .f rfl | exact .gt rfl | exact .gf rfl) (fun hg => by (try simp only [↓gval_on hg, ↓gval_and hg] at h); (have hg2 := hg; (try simp only [Bool.and_eq_true, Bool.or_eq_true, Bool.not_eq_true', decide_eq_true_eq, decide_eq_false_iff_not] at hg2)); first | exact r_bin h rfl rfl (B.gtr_int)) rfl ?_
   clear h a w; intro a w h
   first
      | (refine wv h (r_pickA h rfl rfl rfl) rfl ?_)
      | (refine wv h (r_pickO h rfl rfl rfl) rfl ?_)
      | (refine wv h (r_pick_true h rfl rfl) rfl ?_)
      | (refine wv h (r_pick_false h rfl rfl) rfl ?_)
      | (refine wv h (r_pick h rfl rfl rfl) rfl ?_)
   clear h a w; intro a w h
   refine wnil (c_then ?_)
   first
    | refine c_condD h rfl (fun ht2 => ?_) (fun ht2 => ?_)
    | refine c_condP h rfl (by first | (simp only [Bool.and_eq_true, Bool.or_eq_true, Bool.not_eq_true', decide_eq_true_eq, decide_eq_false_iff_not, ne_eq, Bool.not_eq_eq_eq_not, Bool.not_true, beq_iff_eq, bne_iff_ne]; exact Iff.rfl) | exact Iff.rfl) (fun ht2 => ?_) (fun ht2 => ?_)
   ·
    have hne : ¬ Jn.readN D.read = [] := by
      rw [← hx1]
      intro q
      have := congrArg List.length q
      simp at this
      rw [this] at ht2; simp at ht2
    have hop : Jn.openN D = Jn.runW D (Jn.applyW (pgs pl)) := by rw [Jn.openN, if_neg hne, hx1]
    as_aux_lemma =>
     refine c_region ?_
     refine wv h (r_move h rfl) rfl ?_
     clear h a w; intro a w h
     refine wv h (r_move h rfl) rfl ?_
     clear h a w; intro a w h
     refine wl rfl (op_call h rfl K.go_journal_Journal_apply (jn_apply s _ _ b _ D vl pl _ 1 rfl hok (by omega) (by exact Views.own 0 rfl) (by exact hx2.cons _) h.2) rfl ?_)
     clear h a w; intro x a w hx h
     (try simp only [List.set_cons_zero, List.set_cons_succ] at h)
     rw [← hop] at h
     refine wv h (r_assign h rfl) rfl ?_
     clear h a w; intro a w h
     refine wnil ?_
     refine c_then ?_
     refine c_seq ?_
     refine c_seq (c_region ?_)
     refine wv h (r_move h rfl) rfl ?_
     clear h a w; intro a w h
     refine wv h (r_bin h rfl rfl (B.neq_int)) rfl ?_
     clear h a w; intro a w h
     refine wnil (c_then ?_)
     first
      | refine c_condD h rfl (fun ht3 => ?_) (fun ht3 => ?_)
      | refine c_condP h rfl (by first | (simp only [Bool.and_eq_true, Bool.or_eq_true, Bool.not_eq_true', decide_eq_true_eq, decide_eq_false_iff_not, ne_eq, Bool.not_eq_eq_eq_not, Bool.not_true, beq_iff_eq, bne_iff_ne]; exact Iff.rfl) | exact Iff.rfl) (fun ht3 => ?_) (fun ht3 => ?_)
     ·
      as_aux_lemma =>
       refine c_seq (c_region ?_)
       refine wv h (r_move h rfl) rfl ?_
       clear h a w; intro a w h
       refine wv h (r_assign h rfl) rfl ?_
       clear h a w; intro a w h
       refine wv h (r_assign h rfl) rfl ?_
       clear h a w; intro a w h
       refine wnil (c_then ?_)
       refine c_ret ?_
       refine ret2 h rfl rfl rfl ⟨_, by dsimp only; rw [if_neg ht3], Sat.dropMid (h.2.drop 1), trivial⟩
     ·
      refine c_skip ?_
      refine c_then ?_
      refine c_seq (c_region ?_)
      refine wv h (r_move h rfl) rfl ?_
      clear h a w; intro a w h
      refine wv h (r_assign h rfl) rfl ?_
      clear h a w; intro a w h
      refine wv h (r_assign h rfl) rfl ?_
      clear h a w; intro a w h
      refine wnil (c_then ?_)
      refine c_ret ?_
      refine ret2 h rfl rfl rfl ⟨_, by dsimp only; rw [if_pos (by simpa using ht3), show (Jn.openN D).2 = 0 by simpa using ht3], Sat.dropMid (h.2.drop 1), trivial⟩
   ·
    have he : Jn.readN D.read = [] := by
      rw [← hx1]
      apply List.eq_nil_of_length_eq_zero
      simp only [pgs_len]
      omega
    have hop : Jn.openN D = (D, 0) := by rw [Jn.openN, if_pos he]
    refine c_skip ?_
    refine c_then ?_
    refine c_seq ?_
    refine c_seq (c_region ?_)
    refine wv h (r_move h rfl) rfl ?_
    clear h a w; intro a w h
    refine wv h (r_bin h rfl rfl (B.neq_int)) rfl ?_
    clear h a w; intro a w h
    refine wnil (c_then ?_)
    first
     | refine c_condD h rfl (fun ht4 => ?_) (fun ht4 => ?_)
     | refine c_condP h rfl (by first | (simp only [Bool.and_eq_true, Bool.or_eq_true, Bool.not_eq_true', decide_eq_true_eq, decide_eq_false_iff_not, ne_eq, Bool.not_eq_eq_eq_not, Bool.not_true, beq_iff_eq, bne_iff_ne]; exact Iff.rfl) | exact Iff.rfl) (fun ht4 => ?_) (fun ht4 => ?_)
    ·
     exfalso
     simp at ht4
    ·
     refine c_skip ?_
     refine c_then ?_
     refine c_seq (c_region ?_)
     refine wv h (r_move h rfl) rfl ?_
     clear h a w; intro a w h
     refine wv h (r_assign h rfl) rfl ?_
     clear h a w; intro a w h
     refine wv h (r_assign h rfl) rfl ?_
     clear h a w; intro a w h
     refine wnil (c_then ?_)
     refine c_ret ?_
     refine ret2 h rfl rfl rfl ⟨_, by rw [hop]; rfl, ?_, trivial⟩
     rw [hop]; exact Sat.dropMid (h.2.drop 1)

theorem jn_Write_nil (s w : World) (lv : Value) (F : List HItem) (hs : Sat s w F) :
    Calls P n_journal_Journal_Write #[dnil, lv] w (Ret s (fun _ : Unit => .int .i64 2) (fun _ => F) (fun _ => True)) := by
  refine enter K.fn_journal_Journal_Write rfl K.nt_journal_Journal_Write rfl hs ?_
  clear hs w; intro a w h
  refine c_seq (c_region ?_)
  refine wv h (r_assign h rfl) rfl ?_
  clear h a w; intro a w h
  refine wnil (c_then ?_)
  refine c_seq ?_
  refine c_block ?_
  refine c_seq (c_region ?_)
  refine wv h (r_move h rfl) rfl ?_
  clear h a w; intro a w h
  refine wv h (r_ptreq_nil h K.u_p_journal_Journal rfl rfl) rfl ?_
  clear h a w; intro a w h
  refine wv h (r_assign h rfl) rfl ?_
  clear h a w; intro a w h
  refine wnil (c_then ?_)
  first
   | refine c_condD h rfl (fun ht1 => ?_) (fun ht1 => ?_)
   | refine c_condP h rfl (by first | (simp only [Bool.and_eq_true, Bool.or_eq_true, Bool.not_eq_true', decide_eq_true_eq, decide_eq_false_iff_not, ne_eq, Bool.not_eq_eq_eq_not, Bool.not_true, beq_iff_eq, bne_iff_ne]; exact Iff.rfl) | exact Iff.rfl) (fun ht1 => ?_) (fun ht1 => ?_)
  ·
   as_aux_lemma =>
    refine c_seq (c_region ?_)
    refine wv h (r_assign h rfl) rfl ?_
    clear h a w; intro a w h
    refine wnil (c_then ?_)
    refine c_ret ?_
    exact ret1 h rfl rfl ⟨(), rfl, h.2, trivial⟩
  ·
   exfalso
   simp at ht1
theorem jn_Write (s w : World) (bj b n : Nat) (D : Dk) (lv : Value) (l : List PgV) (L : List HItem) (i : Nat) (hi : L[i]? = some (JnI bj b D n)) (hok : D.ok) (hac : D.acts + 76 ≤ 1000000000) (hn : n ≤ 4294967296) (hv : Views (L.eraseIdx i) 2 lv l.length (l.flatMap cellsPg)) (hp : OkV (L.eraseIdx i) l) (hs : Sat s w L) :
    Calls P n_journal_Journal_Write #[dp bj, lv] w (Ret s (fun _ : Unit => .int .i64 (Jn.jW D n (pgs l)).2.2) (fun _ => L.set i (JnI bj b (Jn.jW D n (pgs l)).1 (Jn.jW D n (pgs l)).2.1)) (fun _ => True)) := by
  refine at0 i hi hs fun F hF hs2 => ?_
  rw [← hF] at hv hp
  clear hs hi hF
  replace hs := hs2
  clear hs2
  have hlen := Views.len_le hv hs.tail
  have hsl := hok.2.1
  refine enter K.fn_journal_Journal_Write rfl K.nt_journal_Journal_Write rfl hs ?_
  clear hs w; intro a w h
  refine c_seq (c_region ?_)
  refine wv h (r_assign h rfl) rfl ?_
  clear h a w; intro a w h
  refine wnil (c_then ?_)
  refine c_seq ?_
  refine c_block ?_
  refine c_seq (c_region ?_)
  refine wv h (r_move h rfl) rfl ?_
  clear h a w; intro a w h
  refine wv h (r_ptreq_nil h K.u_p_journal_Journal rfl rfl) rfl ?_
  clear h a w; intro a w h
  refine wv h (r_assign h rfl) rfl ?_
  clear h a w; intro a w h
  refine wnil (c_then ?_)
  first
   | refine c_condD h rfl (fun ht1 => ?_) (fun ht1 => ?_)
   | refine c_condP h rfl (by first | (simp only [Bool.and_eq_true, Bool.or_eq_true, Bool.not_eq_true', decide_eq_true_eq, decide_eq_false_iff_not, ne_eq, Bool.not_eq_eq_eq_not, Bool.not_true, beq_iff_eq, bne_iff_ne]; exact Iff.rfl) | exact Iff.rfl) (fun ht1 => ?_) (fun ht1 => ?_)
  ·
   exfalso
   simp at ht1
  ·
   refine c_seq (c_region ?_)
   refine wv h (r_move h rfl) rfl ?_
   clear h a w; intro a w h
   refine wv h (r_lenV h rfl K.u_S_journal_Page (by first | exact Views.own 0 rfl | exact Views.own 1 rfl | exact Views.own 2 rfl | exact Views.own 3 rfl | exact Views.own 4 rfl | exact Views.own 5 rfl | assumption | exact Views.of_drop 1 (by assumption) | exact Views.of_drop 2 (by assumption) | exact Views.of_drop 3 (by assumption) | exact Views.of_drop 4 (by assumption) | exact Views.of_drop 5 (by assumption) | exact Views.of_drop 6 (by assumption) | exact Views.of_drop 7 (by assumption) | exact Views.of_drop 8 (by assumption) | exact Views.of_drop 9 (by assumption) | exact Views.of_drop 10 (by assumption) | exact Views.of_drop 11 (by assumption) | exact Views.of_drop 12 (by assumption))) rfl ?_
   clear h a w; intro a w h
   refine wv h (r_bin h rfl rfl (B.gtr_int)) rfl ?_
   clear h a w; intro a w h
   refine wv h (r_assign h rfl) rfl ?_
   clear h a w; intro a w h
   refine wnil (c_then ?_)
   first
    | refine c_condD h rfl (fun ht2 => ?_) (fun ht2 => ?_)
    | refine c_condP h rfl (by first | (simp only [Bool.and_eq_true, Bool.or_eq_true, Bool.not_eq_true', decide_eq_true_eq, decide_eq_false_iff_not, ne_eq, Bool.not_eq_eq_eq_not, Bool.not_true, beq_iff_eq, bne_iff_ne]; exact Iff.rfl) | exact Iff.rfl) (fun ht2 => ?_) (fun ht2 => ?_)
   ·
    as_aux_lemma =>
     refine c_seq (c_region ?_)
     refine wv h (r_assign h rfl) rfl ?_
     clear h a w; intro a w h
     refine wnil (c_then ?_)
     refine c_ret ?_
     have e : Jn.jW D n (pgs l) = (D, n, 5) := by rw [Jn.jW, if_pos (by rw [pgs_len]; omega)]
     exact ret1 h rfl rfl ⟨(), by rw [e], by rw [e]; exact h.2, trivial⟩
   ·
    have h24 : l.length ≤ 24 := by omega
    refine c_skip ?_
    refine b_normal ?_
    refine c_then ?_
    refine c_seq ?_
    refine c_seq (c_region ?_)
    refine wv h (r_move h rfl) rfl ?_
    clear h a w; intro a w h
    refine wv h (r_lenV h rfl K.u_S_journal_Page (by first | exact Views.own 0 rfl | exact Views.own 1 rfl | exact Views.own 2 rfl | exact Views.own 3 rfl | exact Views.own 4 rfl | exact Views.own 5 rfl | assumption | exact Views.of_drop 1 (by assumption) | exact Views.of_drop 2 (by assumption) | exact Views.of_drop 3 (by assumption) | exact Views.of_drop 4 (by assumption) | exact Views.of_drop 5 (by assumption) | exact Views.of_drop 6 (by assumption) | exact Views.of_drop 7 (by assumption) | exact Views.of_drop 8 (by assumption) | exact Views.of_drop 9 (by assumption) | exact Views.of_drop 10 (by assumption) | exact Views.of_drop 11 (by assumption) | exact Views.of_drop 12 (by assumption))) rfl ?_
    clear h a w; intro a w h
    refine wv h (r_move h rfl) rfl ?_
    clear h a w; intro a w h
    refine wnil (c_then ?_)
    refine c_block ?_
    refine c_loopX h (X := Nat) (fun x => [(0, dp bj), (1, lv), (15, lv), (16, .int .i64 (l.length : Int)), (17, .int .i64 (x : Int))])
      (fun x => JnI bj b D n :: F) (fun x => x ≤ l.length ∧ ∀ k x', k < x → l[k]? = some x' → Jn.good D.safe.length x'.pg) (fun x => l.length - x) 0 (h.keep [0, 1, 15, 16, 17])
      ⟨Nat.zero_le _, fun k x' hk => absurd hk (Nat.not_lt_zero k)⟩ ?_
    clear h a w; intro i a w hx h
    obtain ⟨hx1, hx2⟩ := hx
    as_aux_lemma =>
     refine c_seq (c_region ?_)
     refine wv h (r_bin h rfl rfl (B.lss_int)) rfl ?_
     clear h a w; intro a w h
     refine wnil (c_then ?_)
     refine c_seq ?_
     first
      | refine c_condD h rfl (fun ht3 => ?_) (fun ht3 => ?_)
      | refine c_condP h rfl (by first | (simp only [Bool.and_eq_true, Bool.or_eq_true, Bool.not_eq_true', decide_eq_true_eq, decide_eq_false_iff_not, ne_eq, Bool.not_eq_eq_eq_not, Bool.not_true, beq_iff_eq, bne_iff_ne]; exact Iff.rfl) | exact Iff.rfl) (fun ht3 => ?_) (fun ht3 => ?_)
     ·
      obtain ⟨x, hx⟩ : ∃ x, l[i]? = some x := ⟨l[i], by simp⟩
      obtain ⟨hxv, hxa, hxb⟩ := hp x (List.mem_of_getElem? hx)
      refine c_skip ?_
      refine c_then ?_
      refine c_seq ?_
      refine c_block ?_
      refine c_seq (c_region ?_)
      refine wv h (r_elP h rfl rfl K.u_S_journal_Page K.sz_journal_Page (by first | exact Views.own 0 rfl | exact Views.own 1 rfl | exact Views.own 2 rfl | exact Views.own 3 rfl | exact Views.own 4 rfl | exact Views.own 5 rfl | assumption | exact Views.of_drop 1 (by assumption) | exact Views.of_drop 2 (by assumption) | exact Views.of_drop 3 (by assumption) | exact Views.of_drop 4 (by assumption) | exact Views.of_drop 5 (by assumption) | exact Views.of_drop 6 (by assumption) | exact Views.of_drop 7 (by assumption) | exact Views.of_drop 8 (by assumption) | exact Views.of_drop 9 (by assumption) | exact Views.of_drop 10 (by assumption) | exact Views.of_drop 11 (by assumption) | exact Views.of_drop 12 (by assumption)) (by first | omega | (simp; done)) (by first | omega | (simp only [List.length_cons, List.length_nil]; omega) | (simp; done) | (simp; omega))) rfl ?_
      clear h a w; intro a w h
      first
            | (refine wv h (r_elM h rfl K.u_journal_Page rfl K.sz_journal_Page rfl (by first | exact Views.own 0 rfl | exact Views.own 1 rfl | exact Views.own 2 rfl | exact Views.own 3 rfl | exact Views.own 4 rfl | exact Views.own 5 rfl | assumption | exact Views.of_drop 1 (by assumption) | exact Views.of_drop 2 (by assumption) | exact Views.of_drop 3 (by assumption) | exact Views.of_drop 4 (by assumption) | exact Views.of_drop 5 (by assumption) | exact Views.of_drop 6 (by assumption) | exact Views.of_drop 7 (by assumption) | exact Views.of_drop 8 (by assumption) | exact Views.of_drop 9 (by assumption) | exact Views.of_drop 10 (by assumption) | exact Views.of_drop 11 (by assumption) | exact Views.of_drop 12 (by assumption)) (by assumption)) rfl ?_)
            | (refine wv h (r_elMd h rfl K.u_journal_Page rfl K.sz_journal_Page rfl (by first | exact Views.own 0 rfl | exact Views.own 1 rfl | exact Views.own 2 rfl | exact Views.own 3 rfl | exact Views.own 4 rfl | exact Views.own 5 rfl | assumption | exact Views.of_drop 1 (by assumption) | exact Views.of_drop 2 (by assumption) | exact Views.of_drop 3 (by assumption) | exact Views.of_drop 4 (by assumption) | exact Views.of_drop 5 (by assumption) | exact Views.of_drop 6 (by assumption) | exact Views.of_drop 7 (by assumption) | exact Views.of_drop 8 (by assumption) | exact Views.of_drop 9 (by assumption) | exact Views.of_drop 10 (by assumption) | exact Views.of_drop 11 (by assumption) | exact Views.of_drop 12 (by assumption)) (by first | omega | (simp only [List.length_cons, List.length_nil]; omega) | (simp; done) | (simp; omega))) rfl ?_)
      clear h a w; intro a w h
      refine wl rfl (op_alloc h K.z_journal_Page rfl ?_)
      clear h a w; intro b6 a w h
      first
            | (refine wl rfl (op_stA h rfl rfl K.sz_journal_Page (by first | exact Row.len _ | rfl | assumption | (simp; done) | (simp; omega) | omega) (by first | exact Row.one _ | exact bs_one _ | assumption | (simp; done) | (simp; (repeat' apply And.intro) <;> first | rfl | assumption)) 0 rfl (by first | rfl | assumption | (simp; done) | (simp; omega) | omega) ?_))
            | (refine wl rfl (op_stA h rfl rfl K.sz_journal_Page (by first | exact Row.len _ | rfl | assumption | (simp; done) | (simp; omega) | omega) (by first | exact Row.one _ | exact bs_one _ | assumption | (simp; done) | (simp; (repeat' apply And.intro) <;> first | rfl | assumption)) 1 rfl (by first | rfl | assumption | (simp; done) | (simp; omega) | omega) ?_))
            | (refine wl rfl (op_stA h rfl rfl K.sz_journal_Page (by first | exact Row.len _ | rfl | assumption | (simp; done) | (simp; omega) | omega) (by first | exact Row.one _ | exact bs_one _ | assumption | (simp; done) | (simp; (repeat' apply And.intro) <;> first | rfl | assumption)) 2 rfl (by first | rfl | assumption | (simp; done) | (simp; omega) | omega) ?_))
            | (refine wl rfl (op_stA h rfl rfl K.sz_journal_Page (by first | exact Row.len _ | rfl | assumption | (simp; done) | (simp; omega) | omega) (by first | exact Row.one _ | exact bs_one _ | assumption | (simp; done) | (simp; (repeat' apply And.intro) <;> first | rfl | assumption)) 3 rfl (by first | rfl | assumption | (simp; done) | (simp; omega) | omega) ?_))
            | (refine wl rfl (op_stA h rfl rfl K.sz_journal_Page (by first | exact Row.len _ | rfl | assumption | (simp; done) | (simp; omega) | omega) (by first | exact Row.one _ | exact bs_one _ | assumption | (simp; done) | (simp; (repeat' apply And.intro) <;> first | rfl | assumption)) 4 rfl (by first | rfl | assumption | (simp; done) | (simp; omega) | omega) ?_))
            | (refine wl rfl (op_stA h rfl rfl K.sz_journal_Page (by first | exact Row.len _ | rfl | assumption | (simp; done) | (simp; omega) | omega) (by first | exact Row.one _ | exact bs_one _ | assumption | (simp; done) | (simp; (repeat' apply And.intro) <;> first | rfl | assumption)) 5 rfl (by first | rfl | assumption | (simp; done) | (simp; omega) | omega) ?_))
      clear h a w; intro a w h
      (try simp only [List.set_cons_zero, List.set_cons_succ] at h)
      refine wnil (c_then ?_)
      refine c_seq (c_draw K.mixed (by kernel_rfl) h ?_)
      clear h a w; intro a hE
      first
            | (refine qv hE (fun w hw => r_fieldAddr0 ⟨hE, hw⟩ rfl K.u_journal_Page rfl K.sz_int rfl rfl) rfl ?_)
            | (refine qv hE (fun w hw => op_fieldC ⟨hE, hw⟩ 0 rfl K.u_journal_Page rfl K.sz_int rfl rfl (by assumption) rfl) rfl ?_)
      clear hE a; intro a hE
      first
            | (refine qv hE (fun w hw => r_ldN ⟨hE, hw⟩ rfl K.u_int rfl 0 rfl rfl) rfl ?_)
            | (refine qv hE (fun w hw => r_ldN ⟨hE, hw⟩ rfl K.u_int rfl 1 rfl rfl) rfl ?_)
            | (refine qv hE (fun w hw => r_ldN ⟨hE, hw⟩ rfl K.u_int rfl 2 rfl rfl) rfl ?_)
            | (refine qv hE (fun w hw => r_ldN ⟨hE, hw⟩ rfl K.u_int rfl 3 rfl rfl) rfl ?_)
            | (refine qv hE (fun w hw => r_ldN ⟨hE, hw⟩ rfl K.u_int rfl 4 rfl rfl) rfl ?_)
            | (refine qv hE (fun w hw => r_ldN ⟨hE, hw⟩ rfl K.u_int rfl 5 rfl rfl) rfl ?_)
            | (refine qv hE (fun w hw => r_ldN ⟨hE, hw⟩ rfl K.u_int rfl 6 rfl rfl) rfl ?_)
            | (refine qv hE (fun w hw => r_ldC (o := 0) ⟨hE, hw⟩ rfl K.u_int rfl 0 rfl) rfl ?_)
            | (refine qv hE (fun w hw => r_ldC (o := 0) ⟨hE, hw⟩ rfl K.u_int rfl 1 rfl) rfl ?_)
            | (refine qv hE (fun w hw => r_ldC (o := 0) ⟨hE, hw⟩ rfl K.u_int rfl 2 rfl) rfl ?_)
            | (refine qv hE (fun w hw => r_ldC (o := 0) ⟨hE, hw⟩ rfl K.u_int rfl 3 rfl) rfl ?_)
            | (refine qv hE (fun w hw => r_ldC (o := 0) ⟨hE, hw⟩ rfl K.u_int rfl 4 rfl) rfl ?_)
            | (refine qv hE (fun w hw => r_ldC (o := 0) ⟨hE, hw⟩ rfl K.u_int rfl 5 rfl) rfl ?_)
            | (refine qv hE (fun w hw => r_ldC (o := 0) ⟨hE, hw⟩ rfl K.u_int rfl 6 rfl) rfl ?_)
            | (refine qv hE (fun w hw => r_load ⟨hE, hw⟩ rfl K.u_int rfl 0 rfl rfl) rfl ?_)
            | (refine qv hE (fun w hw => r_load ⟨hE, hw⟩ rfl K.u_int rfl 1 rfl rfl) rfl ?_)
            | (refine qv hE (fun w hw => r_load ⟨hE, hw⟩ rfl K.u_int rfl 2 rfl rfl) rfl ?_)
            | (refine qv hE (fun w hw => r_load ⟨hE, hw⟩ rfl K.u_int rfl 3 rfl rfl) rfl ?_)
            | (refine qv hE (fun w hw => r_load ⟨hE, hw⟩ rfl K.u_int rfl 4 rfl rfl) rfl ?_)
            | (refine qv hE (fun w hw => r_load ⟨hE, hw⟩ rfl K.u_int rfl 5 rfl rfl) rfl ?_)
            | (refine qv hE (fun w hw => r_load1 ⟨hE, hw⟩ rfl K.u_int rfl (by assumption)) rfl ?_)
      clear hE a; intro a hE
      refine qv hE (fun w hw => r_bin ⟨hE, hw⟩ rfl rfl (B.lss_int)) rfl ?_
      clear hE a; intro a hE
      refine qv hE (fun w hw => r_move ⟨hE, hw⟩ rfl) rfl ?_
      clear hE a; intro a hE
      refine qvG hE (by first | exact .t rfl | exact .f rfl | exact .gt rfl | exact .gf rfl) (fun hg w hw => by (try simp only [↓gval_on hg, ↓gval_and hg] at hE); (have hg2 := hg; (try simp only [Bool.and_eq_true, Bool.or_eq_true, Bool.not_eq_true', decide_eq_true_eq, decide_eq_false_iff_not] at hg2)); first | exact r_fieldAddr0 ⟨hE, hw⟩ rfl K.u_journal_Page rfl K.sz_int rfl rfl | exact op_fieldC ⟨hE, hw⟩ 0 rfl K.u_journal_Page rfl K.sz_int rfl rfl (by assumption) rfl) rfl ?_
      clear hE a; intro a hE
      refine qvG hE (by first | exact .t rfl | exact .f rfl | exact .gt rfl | exact .gf rfl) (fun hg w hw => by (try simp only [↓gval_on hg, ↓gval_and hg] at hE); (have hg2 := hg; (try simp only [Bool.and_eq_true, Bool.or_eq_true, Bool.not_eq_true', decide_eq_true_eq, decide_eq_false_iff_not] at hg2)); first | exact r_ldN ⟨hE, hw⟩ rfl K.u_int rfl 0 rfl rfl | exact r_ldN ⟨hE, hw⟩ rfl K.u_int rfl 1 rfl rfl | exact r_ldN ⟨hE, hw⟩ rfl K.u_int rfl 2 rfl rfl | exact r_ldN ⟨hE, hw⟩ rfl K.u_int rfl 3 rfl rfl | exact r_ldN ⟨hE, hw⟩ rfl K.u_int rfl 4 rfl rfl | exact r_ldN ⟨hE, hw⟩ rfl K.u_int rfl 5 rfl rfl | exact r_ldN ⟨hE, hw⟩ rfl K.u_int rfl 6 rfl rfl | exact r_ldC (o := 0) ⟨hE, hw⟩ rfl K.u_int rfl 0 rfl | exact r_ldC (o := 0) ⟨hE, hw⟩ rfl K.u_int rfl 1 rfl | exact r_ldC (o := 0) ⟨hE, hw⟩ rfl K.u_int rfl 2 rfl | exact r_ldC (o := 0) ⟨hE, hw⟩ rfl K.u_int rfl 3 rfl | exact r_ldC (o := 0) ⟨hE, hw⟩ rfl K.u_int rfl 4 rfl | exact r_ldC (o := 0) ⟨hE, hw⟩ rfl K.u_int rfl 5 rfl | exact r_ldC (o := 0) ⟨hE, hw⟩ rfl K.u_int rfl 6 rfl | exact r_load ⟨hE, hw⟩ rfl K.u_int rfl 0 rfl rfl | exact r_load ⟨hE, hw⟩ rfl K.u_int rfl 1 rfl rfl | exact r_load ⟨hE, hw⟩ rfl K.u_int rfl 2 rfl rfl | exact r_load ⟨hE, hw⟩ rfl K.u_int rfl 3 rfl rfl | exact r_load ⟨hE, hw⟩ rfl K.u_int rfl 4 rfl rfl | exact r_load ⟨hE, hw⟩ rfl K.u_int rfl 5 rfl rfl | exact r_load1 ⟨hE, hw⟩ rfl K.u_int rfl (by assumption)) rfl ?_
      clear hE a; intro a hE
      refine qvG hE (by first | exact .t rfl | exact .f rfl | exact .gt rfl | exact .gf rfl) (fun hg w hw => by (try simp only [↓gval_on hg, ↓gval_and hg] at hE); (have hg2 := hg; (try simp only [Bool.and_eq_true, Bool.or_eq_true, Bool.not_eq_true', decide_eq_true_eq, decide_eq_false_iff_not] at hg2)); first | exact r_move ⟨hE, hw⟩ rfl) rfl ?_
      clear hE a; intro a hE
      refine q_cG hE (by first | exact .t rfl | exact .f rfl | exact .gt rfl | exact .gf rfl) K.go_journal_Journal_Sectors (fun hg => by (try simp only [↓gval_on hg, ↓gval_and hg]); (have hg2 := hg; (try simp only [Bool.and_eq_true, Bool.or_eq_true, Bool.not_eq_true', decide_eq_true_eq, decide_eq_false_iff_not] at hg2)); exact ⟨_, rfl, fun w hw => (by first | exact jn_Sectors s _ _ _ _ _ _ 0 rfl (by first | assumption | exact Dk.OkN.ok' (by decide)) hw | exact jn_Sectors s _ _ _ _ _ _ 1 rfl (by first | assumption | exact Dk.OkN.ok' (by decide)) hw | exact jn_Sectors s _ _ _ _ _ _ 2 rfl (by first | assumption | exact Dk.OkN.ok' (by decide)) hw | exact jn_Sectors s _ _ _ _ _ _ 3 rfl (by first | assumption | exact Dk.OkN.ok' (by decide)) hw | exact jn_Sectors s _ _ _ _ _ _ 4 rfl (by first | assumption | exact Dk.OkN.ok' (by decide)) hw | exact jn_Sectors s _ _ _ _ _ _ 5 rfl (by first | assumption | exact Dk.OkN.ok' (by decide)) hw)⟩) rfl ?_
      clear hE a; intro a hE
      refine qvG hE (by first | exact .t rfl | exact .f rfl | exact .gt rfl | exact .gf rfl) (fun hg w hw => by (try simp only [↓gval_on hg, ↓gval_and hg] at hE); (have hg2 := hg; (try simp only [Bool.and_eq_true, Bool.or_eq_true, Bool.not_eq_true', decide_eq_true_eq, decide_eq_false_iff_not] at hg2)); first | exact r_bin ⟨hE, hw⟩ rfl rfl (B.geq_int)) rfl ?_
      clear hE a; intro a hE
      first
            | (refine qv hE (fun w hw => r_pickA ⟨hE, hw⟩ rfl rfl rfl) rfl ?_)
            | (refine qv hE (fun w hw => r_pickO ⟨hE, hw⟩ rfl rfl rfl) rfl ?_)
            | (refine qv hE (fun w hw => r_pick_true ⟨hE, hw⟩ rfl rfl) rfl ?_)
            | (refine qv hE (fun w hw => r_pick_false ⟨hE, hw⟩ rfl rfl) rfl ?_)
            | (refine qv hE (fun w hw => r_pick ⟨hE, hw⟩ rfl rfl rfl) rfl ?_)
      clear hE a; intro a hE
      refine qv hE (fun w hw => r_move ⟨hE, hw⟩ rfl) rfl ?_
      clear hE a; intro a hE
      refine qvG hE (by first | exact .t rfl | exact .f rfl | exact .gt rfl | exact .gf rfl) (fun hg w hw => by (try simp only [↓gval_on hg, ↓gval_and hg] at hE); (have hg2 := hg; (try simp only [Bool.and_eq_true, Bool.or_eq_true, Bool.not_eq_true', decide_eq_true_eq, decide_eq_false_iff_not] at hg2)); first | exact r_fieldAddr ⟨hE, hw⟩ 1 rfl K.u_journal_Page rfl K.sz_S_uint8 rfl rfl | exact op_fieldC ⟨hE, hw⟩ 1 rfl K.u_journal_Page rfl K.sz_S_uint8 rfl rfl (by assumption) rfl) rfl ?_
      clear hE a; intro a hE
      refine qvG hE (by first | exact .t rfl | exact .f rfl | exact .gt rfl | exact .gf rfl) (fun hg w hw => by (try simp only [↓gval_on hg, ↓gval_and hg] at hE); (have hg2 := hg; (try simp only [Bool.and_eq_true, Bool.or_eq_true, Bool.not_eq_true', decide_eq_true_eq, decide_eq_false_iff_not] at hg2)); first | exact r_ldN ⟨hE, hw⟩ rfl K.u_S_uint8 rfl 0 rfl rfl | exact r_ldN ⟨hE, hw⟩ rfl K.u_S_uint8 rfl 1 rfl rfl | exact r_ldN ⟨hE, hw⟩ rfl K.u_S_uint8 rfl 2 rfl rfl | exact r_ldN ⟨hE, hw⟩ rfl K.u_S_uint8 rfl 3 rfl rfl | exact r_ldN ⟨hE, hw⟩ rfl K.u_S_uint8 rfl 4 rfl rfl | exact r_ldN ⟨hE, hw⟩ rfl K.u_S_uint8 rfl 5 rfl rfl | exact r_ldN ⟨hE, hw⟩ rfl K.u_S_uint8 rfl 6 rfl rfl | exact r_ldC (o := 1) ⟨hE, hw⟩ rfl K.u_S_uint8 rfl 0 rfl | exact r_ldC (o := 1) ⟨hE, hw⟩ rfl K.u_S_uint8 rfl 1 rfl | exact r_ldC (o := 1) ⟨hE, hw⟩ rfl K.u_S_uint8 rfl 2 rfl | exact r_ldC (o := 1) ⟨hE, hw⟩ rfl K.u_S_uint8 rfl 3 rfl | exact r_ldC (o := 1) ⟨hE, hw⟩ rfl K.u_S_uint8 rfl 4 rfl | exact r_ldC (o := 1) ⟨hE, hw⟩ rfl K.u_S_uint8 rfl 5 rfl | exact r_ldC (o := 1) ⟨hE, hw⟩ rfl K.u_S_uint8 rfl 6 rfl | exact r_load ⟨hE, hw⟩ rfl K.u_S_uint8 rfl 0 rfl rfl | exact r_load ⟨hE, hw⟩ rfl K.u_S_uint8 rfl 1 rfl rfl | exact r_load ⟨hE, hw⟩ rfl K.u_S_uint8 rfl 2 rfl rfl | exact r_load ⟨hE, hw⟩ rfl K.u_S_uint8 rfl 3 rfl rfl | exact r_load ⟨hE, hw⟩ rfl K.u_S_uint8 rfl 4 rfl rfl | exact r_load ⟨hE, hw⟩ rfl K.u_S_uint8 rfl 5 rfl rfl | exact r_load1 ⟨hE, hw⟩ rfl K.u_S_uint8 rfl (by assumption)) rfl ?_
      clear hE a; intro a hE
      refine qvG hE (by first | exact .t rfl | exact .f rfl | exact .gt rfl | exact .gf rfl) (fun hg w hw => by (try simp only [↓gval_on hg, ↓gval_and hg] at hE); (have hg2 := hg; (try simp only [Bool.and_eq_true, Bool.or_eq_true, Bool.not_eq_true', decide_eq_true_eq, decide_eq_false_iff_not] at hg2)); first | exact r_lenB ⟨hE, hw⟩ rfl K.u_S_uint8 (by first | exact ViewsB.own 0 rfl | exact ViewsB.own 1 rfl | exact ViewsB.own 2 rfl | exact ViewsB.own 3 rfl | exact ViewsB.own 4 rfl | exact ViewsB.own 5 rfl | assumption | exact ViewsB.nil _ | exact ViewsB.arr 0 rfl (by first | assumption | rfl | (simp; done)) (Nat.le_refl _) (by simp [maxLen]) | exact ViewsB.arr 1 rfl (by first | assumption | rfl | (simp; done)) (Nat.le_refl _) (by simp [maxLen]) | exact ViewsB.arr 2 rfl (by first | assumption | rfl | (simp; done)) (Nat.le_refl _) (by simp [maxLen]) | exact ViewsB.arr 3 rfl (by first | assumption | rfl | (simp; done)) (Nat.le_refl _) (by simp [maxLen]) | exact ViewsB.arr 4 rfl (by first | assumption | rfl | (simp; done)) (Nat.le_refl _) (by simp [maxLen]) | exact ViewsB.of_drop 1 (by assumption) | exact ViewsB.of_drop 2 (by assumption) | exact ViewsB.of_drop 3 (by assumption) | exact ViewsB.of_drop 4 (by assumption) | exact ViewsB.of_drop 5 (by assumption) | exact ViewsB.of_drop 6 (by assumption) | exact ViewsB.of_drop 7 (by assumption) | exact ViewsB.of_drop 8 (by assumption) | exact ViewsB.of_drop 9 (by assumption) | exact ViewsB.of_drop 10 (by assumption) | exact ViewsB.of_drop 11 (by assumption) | exact ViewsB.of_drop 12 (by assumption) | exact ViewsB.sub (by first | exact ViewsB.own 0 rfl | exact ViewsB.own 1 rfl | exact ViewsB.own 2 rfl | exact ViewsB.own 3 rfl | exact ViewsB.own 4 rfl | exact ViewsB.own 5 rfl | assumption | exact ViewsB.nil _ | exact ViewsB.arr 0 rfl (by first | assumption | rfl | (simp; done)) (Nat.le_refl _) (by simp [maxLen]) | exact ViewsB.arr 1 rfl (by first | assumption | rfl | (simp; done)) (Nat.le_refl _) (by simp [maxLen]) | exact ViewsB.arr 2 rfl (by first | assumption | rfl | (simp; done)) (Nat.le_refl _) (by simp [maxLen]) | exact ViewsB.arr 3 rfl (by first | assumption | rfl | (simp; done)) (Nat.le_refl _) (by simp [maxLen]) | exact ViewsB.arr 4 rfl (by first | assumption | rfl | (simp; done)) (Nat.le_refl _) (by simp [maxLen]) | exact ViewsB.of_drop 1 (by assumption) | exact ViewsB.of_drop 2 (by assumption) | exact ViewsB.of_drop 3 (by assumption) | exact ViewsB.of_drop 4 (by assumption) | exact ViewsB.of_drop 5 (by assumption) | exact ViewsB.of_drop 6 (by assumption) | exact ViewsB.of_drop 7 (by assumption) | exact ViewsB.of_drop 8 (by assumption) | exact ViewsB.of_drop 9 (by assumption) | exact ViewsB.of_drop 10 (by assumption) | exact ViewsB.of_drop 11 (by assumption) | exact ViewsB.of_drop 12 (by assumption)) (by omega) (by first | omega | (simp; done) | (simp; omega)))) rfl ?_
      clear hE a; intro a hE
      refine qvG hE (by first | exact .t rfl | exact .f rfl | exact .gt rfl | exact .gf rfl) (fun hg w hw => by (try simp only [↓gval_on hg, ↓gval_and hg] at hE); (have hg2 := hg; (try simp only [Bool.and_eq_true, Bool.or_eq_true, Bool.not_eq_true', decide_eq_true_eq, decide_eq_false_iff_not] at hg2)); first | exact r_bin ⟨hE, hw⟩ rfl rfl (B.gtr_int)) rfl ?_
      clear hE a; intro a hE
      first
            | (refine qv hE (fun w hw => r_pickA ⟨hE, hw⟩ rfl rfl rfl) rfl ?_)
            | (refine qv hE (fun w hw => r_pickO ⟨hE, hw⟩ rfl rfl rfl) rfl ?_)
            | (refine qv hE (fun w hw => r_pick_true ⟨hE, hw⟩ rfl rfl) rfl ?_)
            | (refine qv hE (fun w hw => r_pick_false ⟨hE, hw⟩ rfl rfl) rfl ?_)
            | (refine qv hE (fun w hw => r_pick ⟨hE, hw⟩ rfl rfl rfl) rfl ?_)
      clear hE a; intro a hE
      refine qnil hE ?_
      clear hE a; intro a w h
      refine c_then ?_
      first
       | refine c_condD h rfl (fun ht4 => ?_) (fun ht4 => ?_)
       | refine c_condP h rfl (by first | (simp only [Bool.and_eq_true, Bool.or_eq_true, Bool.not_eq_true', decide_eq_true_eq, decide_eq_false_iff_not, ne_eq, Bool.not_eq_eq_eq_not, Bool.not_true, beq_iff_eq, bne_iff_ne]; exact Iff.rfl) | exact Iff.rfl) (fun ht4 => ?_) (fun ht4 => ?_)
      ·
       as_aux_lemma =>
        refine c_seq (c_region ?_)
        refine wv h (r_assign h rfl) rfl ?_
        clear h a w; intro a w h
        refine wnil (c_then ?_)
        refine c_ret ?_
        have hbad : ¬ ∀ x ∈ pgs l, Jn.good D.safe.length x := fun q => by
          have := q x.pg (List.mem_map.2 ⟨x, List.mem_of_getElem? hx, rfl⟩)
          obtain ⟨g1, g2, g3⟩ := this
          dsimp only [PgV.pg] at g1 g2 g3
          omega
        have e : Jn.jW D n (pgs l) = (D, n, 1) := by rw [Jn.jW, if_neg (by rw [pgs_len]; omega), if_pos hbad]
        exact ret1 h rfl rfl ⟨(), by rw [e], by rw [e]; exact h.2.drop 1, trivial⟩
      ·
       have hgd : Jn.good D.safe.length x.pg := by
         refine ⟨?_, ?_, ?_⟩ <;> dsimp only [PgV.pg] <;> omega
       refine c_skip ?_
       refine b_normal ?_
       refine c_then ?_
       refine c_region ?_
       refine wv h (r_bin h rfl rfl (B.add_i64 (by omega) (by omega))) rfl ?_
       clear h a w; intro a w h
       refine wv h (r_move h rfl) rfl ?_
       clear h a w; intro a w h
       refine wnil ?_
       exact ⟨i + 1, h.mem (fun z => z.drop 1) |>.keep [0, 1, 15, 16, 17], ⟨by show i + 1 ≤ _; omega, fun k x' hk hx' => by
         rcases Nat.lt_or_ge k i with e | e
         · exact hx2 k x' e hx'
         · rw [show k = i by omega, hx] at hx'
           cases hx'
           exact hgd⟩, by show l.length - (i + 1) < l.length - i; omega⟩
     ·
      obtain rfl : i = l.length := by omega
      have hall : ∀ x ∈ pgs l, Jn.good D.safe.length x := by
        intro x hx
        obtain ⟨y, hy, rfl⟩ := List.mem_map.1 hx
        obtain ⟨k, hk⟩ := List.mem_iff_getElem?.1 hy
        exact hx2 k y (List.getElem?_eq_some_iff.1 hk).1 hk
      have hjw : Jn.jW D n (pgs l) = if l.length = 0 then (D, n, 0) else if (Jn.runW D (Jn.layW n (pgs l))).2 = 0 then ((Jn.runW (Jn.runW D (Jn.layW n (pgs l))).1 (Jn.applyW (pgs l))).1, n + 1, (Jn.runW (Jn.runW D (Jn.layW n (pgs l))).1 (Jn.applyW (pgs l))).2) else ((Jn.runW D (Jn.layW n (pgs l))).1, n, (Jn.runW D (Jn.layW n (pgs l))).2) := by
        rw [Jn.jW, if_neg (by rw [pgs_len]; omega), if_neg (fun q => q hall), pgs_len]
      have hl64 : ∀ x ∈ l, x.p.length ≤ 64 := fun x hx => (hall x.pg (List.mem_map.2 ⟨x, hx, rfl⟩)).2.2
      have hro := Jn.runW_ok (Jn.layW n (pgs l)) D hok (by rw [Jn.layW_len, pgs_len]; omega)
      rw [Jn.layW_len, pgs_len] at hro
      refine c_exit ?_
      refine e_then ?_
      refine e_then ?_
      refine e_here ?_
      refine c_then ?_
      refine c_seq ?_
      refine c_seq (c_region ?_)
      refine wv h (r_move h rfl) rfl ?_
      clear h a w; intro a w h
      refine wv h (r_lenV h rfl K.u_S_journal_Page (by first | exact Views.own 0 rfl | exact Views.own 1 rfl | exact Views.own 2 rfl | exact Views.own 3 rfl | exact Views.own 4 rfl | exact Views.own 5 rfl | assumption | exact Views.of_drop 1 (by assumption) | exact Views.of_drop 2 (by assumption) | exact Views.of_drop 3 (by assumption) | exact Views.of_drop 4 (by assumption) | exact Views.of_drop 5 (by assumption) | exact Views.of_drop 6 (by assumption) | exact Views.of_drop 7 (by assumption) | exact Views.of_drop 8 (by assumption) | exact Views.of_drop 9 (by assumption) | exact Views.of_drop 10 (by assumption) | exact Views.of_drop 11 (by assumption) | exact Views.of_drop 12 (by assumption))) rfl ?_
      clear h a w; intro a w h
      refine wv h (r_bin h rfl rfl (B.eql_int)) rfl ?_
      clear h a w; intro a w h
      refine wnil (c_then ?_)
      first
       | refine c_condD h rfl (fun ht5 => ?_) (fun ht5 => ?_)
       | refine c_condP h rfl (by first | (simp only [Bool.and_eq_true, Bool.or_eq_true, Bool.not_eq_true', decide_eq_true_eq, decide_eq_false_iff_not, ne_eq, Bool.not_eq_eq_eq_not, Bool.not_true, beq_iff_eq, bne_iff_ne]; exact Iff.rfl) | exact Iff.rfl) (fun ht5 => ?_) (fun ht5 => ?_)
      ·
       as_aux_lemma =>
        refine c_seq (c_region ?_)
        refine wv h (r_assign h rfl) rfl ?_
        clear h a w; intro a w h
        refine wnil (c_then ?_)
        refine c_ret ?_
        rw [if_pos (by omega)] at hjw
        exact ret1 h rfl rfl ⟨(), by rw [hjw], by rw [hjw]; exact h.2, trivial⟩
      ·
       rw [if_neg (by omega)] at hjw
       refine c_skip ?_
       refine c_then ?_
       refine c_seq ?_
       refine c_seq (c_region ?_)
       refine wv h (r_move h rfl) rfl ?_
       clear h a w; intro a w h
       refine wv h (r_move h rfl) rfl ?_
       clear h a w; intro a w h
       refine wl rfl (op_call h rfl K.go_journal_Journal_lay (jn_lay s _ bj b n D lv l _ 0 rfl hok (by omega) hl64 h24 (by exact hv) (by exact hp) h.2) rfl ?_)
       clear h a w; intro x a w hx h
       (try simp only [List.set_cons_zero, List.set_cons_succ] at h)
       refine wv h (r_assign h rfl) rfl ?_
       clear h a w; intro a w h
       refine wnil (c_then ?_)
       refine c_seq (c_region ?_)
       refine wv h (r_move h rfl) rfl ?_
       clear h a w; intro a w h
       refine wv h (r_bin h rfl rfl (B.neq_int)) rfl ?_
       clear h a w; intro a w h
       refine wnil (c_then ?_)
       first
        | refine c_condD h rfl (fun ht6 => ?_) (fun ht6 => ?_)
        | refine c_condP h rfl (by first | (simp only [Bool.and_eq_true, Bool.or_eq_true, Bool.not_eq_true', decide_eq_true_eq, decide_eq_false_iff_not, ne_eq, Bool.not_eq_eq_eq_not, Bool.not_true, beq_iff_eq, bne_iff_ne]; exact Iff.rfl) | exact Iff.rfl) (fun ht6 => ?_) (fun ht6 => ?_)
       ·
        as_aux_lemma =>
         refine c_seq (c_region ?_)
         refine wv h (r_move h rfl) rfl ?_
         clear h a w; intro a w h
         refine wv h (r_assign h rfl) rfl ?_
         clear h a w; intro a w h
         refine wnil (c_then ?_)
         refine c_ret ?_
         rw [if_neg ht6] at hjw
         exact ret1 h rfl rfl ⟨(), by rw [hjw], by rw [hjw]; exact h.2, trivial⟩
       ·
        rw [if_pos (by simpa using ht6)] at hjw
        generalize (Jn.runW D (Jn.layW n (pgs l))).1 = D1 at *
        replace h := h.mem JnI_open
        refine c_skip ?_
        refine c_then ?_
        refine c_seq (c_region ?_)
        refine wv h (r_move h rfl) rfl ?_
        clear h a w; intro a w h
        refine wv h (r_nilCheck h rfl) rfl ?_
        clear h a w; intro a w h
        refine wv h (r_fieldAddr h 1 rfl K.u_journal_Journal rfl K.sz_int rfl rfl) rfl ?_
        clear h a w; intro a w h
        first
                | (refine wv h (r_ldN h rfl K.u_int rfl 0 rfl rfl) rfl ?_)
                | (refine wv h (r_ldN h rfl K.u_int rfl 1 rfl rfl) rfl ?_)
                | (refine wv h (r_ldN h rfl K.u_int rfl 2 rfl rfl) rfl ?_)
                | (refine wv h (r_ldN h rfl K.u_int rfl 3 rfl rfl) rfl ?_)
                | (refine wv h (r_ldN h rfl K.u_int rfl 4 rfl rfl) rfl ?_)
                | (refine wv h (r_ldN h rfl K.u_int rfl 5 rfl rfl) rfl ?_)
                | (refine wv h (r_ldN h rfl K.u_int rfl 6 rfl rfl) rfl ?_)
                | (refine wv h (r_ldC (o := 1) h rfl K.u_int rfl 0 rfl) rfl ?_)
                | (refine wv h (r_ldC (o := 1) h rfl K.u_int rfl 1 rfl) rfl ?_)
                | (refine wv h (r_ldC (o := 1) h rfl K.u_int rfl 2 rfl) rfl ?_)
                | (refine wv h (r_ldC (o := 1) h rfl K.u_int rfl 3 rfl) rfl ?_)
                | (refine wv h (r_ldC (o := 1) h rfl K.u_int rfl 4 rfl) rfl ?_)
                | (refine wv h (r_ldC (o := 1) h rfl K.u_int rfl 5 rfl) rfl ?_)
                | (refine wv h (r_ldC (o := 1) h rfl K.u_int rfl 6 rfl) rfl ?_)
                | (refine wv h (r_load h rfl K.u_int rfl 0 rfl rfl) rfl ?_)
                | (refine wv h (r_load h rfl K.u_int rfl 1 rfl rfl) rfl ?_)
                | (refine wv h (r_load h rfl K.u_int rfl 2 rfl rfl) rfl ?_)
                | (refine wv h (r_load h rfl K.u_int rfl 3 rfl rfl) rfl ?_)
                | (refine wv h (r_load h rfl K.u_int rfl 4 rfl rfl) rfl ?_)
                | (refine wv h (r_load h rfl K.u_int rfl 5 rfl rfl) rfl ?_)
                | (refine wv h (r_load1 h rfl K.u_int rfl (by assumption)) rfl ?_)
        clear h a w; intro a w h
        refine wv h (r_bin h rfl rfl (B.add_i64 (by omega) (by omega))) rfl ?_
        clear h a w; intro a w h
        refine wv h (r_nilCheck h rfl) rfl ?_
        clear h a w; intro a w h
        refine wv h (r_fieldAddr h 1 rfl K.u_journal_Journal rfl K.sz_int rfl rfl) rfl ?_
        clear h a w; intro a w h
        first
                | (refine wl rfl (op_storeN h rfl rfl K.sz_int (by first | rfl | assumption | exact Views.oneCell (Views.own 0 rfl) h.2 | exact Views.oneCell (Views.own 1 rfl) h.2 | exact Views.oneCell (Views.own 2 rfl) h.2 | exact Views.oneCell (Views.own 3 rfl) h.2 | exact Views.oneCell (Views.own 4 rfl) h.2 | exact Views.oneCell (Views.own 5 rfl) h.2 | exact Views.oneCell (by assumption) h.2) 0 rfl rfl ?_))
                | (refine wl rfl (op_storeN h rfl rfl K.sz_int (by first | rfl | assumption | exact Views.oneCell (Views.own 0 rfl) h.2 | exact Views.oneCell (Views.own 1 rfl) h.2 | exact Views.oneCell (Views.own 2 rfl) h.2 | exact Views.oneCell (Views.own 3 rfl) h.2 | exact Views.oneCell (Views.own 4 rfl) h.2 | exact Views.oneCell (Views.own 5 rfl) h.2 | exact Views.oneCell (by assumption) h.2) 1 rfl rfl ?_))
                | (refine wl rfl (op_storeN h rfl rfl K.sz_int (by first | rfl | assumption | exact Views.oneCell (Views.own 0 rfl) h.2 | exact Views.oneCell (Views.own 1 rfl) h.2 | exact Views.oneCell (Views.own 2 rfl) h.2 | exact Views.oneCell (Views.own 3 rfl) h.2 | exact Views.oneCell (Views.own 4 rfl) h.2 | exact Views.oneCell (Views.own 5 rfl) h.2 | exact Views.oneCell (by assumption) h.2) 2 rfl rfl ?_))
                | (refine wl rfl (op_storeN h rfl rfl K.sz_int (by first | rfl | assumption | exact Views.oneCell (Views.own 0 rfl) h.2 | exact Views.oneCell (Views.own 1 rfl) h.2 | exact Views.oneCell (Views.own 2 rfl) h.2 | exact Views.oneCell (Views.own 3 rfl) h.2 | exact Views.oneCell (Views.own 4 rfl) h.2 | exact Views.oneCell (Views.own 5 rfl) h.2 | exact Views.oneCell (by assumption) h.2) 3 rfl rfl ?_))
                | (refine wl rfl (op_storeN h rfl rfl K.sz_int (by first | rfl | assumption | exact Views.oneCell (Views.own 0 rfl) h.2 | exact Views.oneCell (Views.own 1 rfl) h.2 | exact Views.oneCell (Views.own 2 rfl) h.2 | exact Views.oneCell (Views.own 3 rfl) h.2 | exact Views.oneCell (Views.own 4 rfl) h.2 | exact Views.oneCell (Views.own 5 rfl) h.2 | exact Views.oneCell (by assumption) h.2) 4 rfl rfl ?_))
                | (refine wl rfl (op_storeN h rfl rfl K.sz_int (by first | rfl | assumption | exact Views.oneCell (Views.own 0 rfl) h.2 | exact Views.oneCell (Views.own 1 rfl) h.2 | exact Views.oneCell (Views.own 2 rfl) h.2 | exact Views.oneCell (Views.own 3 rfl) h.2 | exact Views.oneCell (Views.own 4 rfl) h.2 | exact Views.oneCell (Views.own 5 rfl) h.2 | exact Views.oneCell (by assumption) h.2) 5 rfl rfl ?_))
                | (refine wl rfl (op_storeN h rfl rfl K.sz_int (by first | rfl | assumption | exact Views.oneCell (Views.own 0 rfl) h.2 | exact Views.oneCell (Views.own 1 rfl) h.2 | exact Views.oneCell (Views.own 2 rfl) h.2 | exact Views.oneCell (Views.own 3 rfl) h.2 | exact Views.oneCell (Views.own 4 rfl) h.2 | exact Views.oneCell (Views.own 5 rfl) h.2 | exact Views.oneCell (by assumption) h.2) 6 rfl rfl ?_))
                | (refine wl rfl (op_storeC (o := 1) h rfl rfl K.sz_int (by first | rfl | assumption | exact Views.oneCell (Views.own 0 rfl) h.2 | exact Views.oneCell (Views.own 1 rfl) h.2 | exact Views.oneCell (Views.own 2 rfl) h.2 | exact Views.oneCell (Views.own 3 rfl) h.2 | exact Views.oneCell (Views.own 4 rfl) h.2 | exact Views.oneCell (Views.own 5 rfl) h.2 | exact Views.oneCell (by assumption) h.2) 0 rfl ?_))
                | (refine wl rfl (op_storeC (o := 1) h rfl rfl K.sz_int (by first | rfl | assumption | exact Views.oneCell (Views.own 0 rfl) h.2 | exact Views.oneCell (Views.own 1 rfl) h.2 | exact Views.oneCell (Views.own 2 rfl) h.2 | exact Views.oneCell (Views.own 3 rfl) h.2 | exact Views.oneCell (Views.own 4 rfl) h.2 | exact Views.oneCell (Views.own 5 rfl) h.2 | exact Views.oneCell (by assumption) h.2) 1 rfl ?_))
                | (refine wl rfl (op_storeC (o := 1) h rfl rfl K.sz_int (by first | rfl | assumption | exact Views.oneCell (Views.own 0 rfl) h.2 | exact Views.oneCell (Views.own 1 rfl) h.2 | exact Views.oneCell (Views.own 2 rfl) h.2 | exact Views.oneCell (Views.own 3 rfl) h.2 | exact Views.oneCell (Views.own 4 rfl) h.2 | exact Views.oneCell (Views.own 5 rfl) h.2 | exact Views.oneCell (by assumption) h.2) 2 rfl ?_))
                | (refine wl rfl (op_storeC (o := 1) h rfl rfl K.sz_int (by first | rfl | assumption | exact Views.oneCell (Views.own 0 rfl) h.2 | exact Views.oneCell (Views.own 1 rfl) h.2 | exact Views.oneCell (Views.own 2 rfl) h.2 | exact Views.oneCell (Views.own 3 rfl) h.2 | exact Views.oneCell (Views.own 4 rfl) h.2 | exact Views.oneCell (Views.own 5 rfl) h.2 | exact Views.oneCell (by assumption) h.2) 3 rfl ?_))
                | (refine wl rfl (op_storeC (o := 1) h rfl rfl K.sz_int (by first | rfl | assumption | exact Views.oneCell (Views.own 0 rfl) h.2 | exact Views.oneCell (Views.own 1 rfl) h.2 | exact Views.oneCell (Views.own 2 rfl) h.2 | exact Views.oneCell (Views.own 3 rfl) h.2 | exact Views.oneCell (Views.own 4 rfl) h.2 | exact Views.oneCell (Views.own 5 rfl) h.2 | exact Views.oneCell (by assumption) h.2) 4 rfl ?_))
                | (refine wl rfl (op_storeC (o := 1) h rfl rfl K.sz_int (by first | rfl | assumption | exact Views.oneCell (Views.own 0 rfl) h.2 | exact Views.oneCell (Views.own 1 rfl) h.2 | exact Views.oneCell (Views.own 2 rfl) h.2 | exact Views.oneCell (Views.own 3 rfl) h.2 | exact Views.oneCell (Views.own 4 rfl) h.2 | exact Views.oneCell (Views.own 5 rfl) h.2 | exact Views.oneCell (by assumption) h.2) 5 rfl ?_))
                | (refine wl rfl (op_storeC (o := 1) h rfl rfl K.sz_int (by first | rfl | assumption | exact Views.oneCell (Views.own 0 rfl) h.2 | exact Views.oneCell (Views.own 1 rfl) h.2 | exact Views.oneCell (Views.own 2 rfl) h.2 | exact Views.oneCell (Views.own 3 rfl) h.2 | exact Views.oneCell (Views.own 4 rfl) h.2 | exact Views.oneCell (Views.own 5 rfl) h.2 | exact Views.oneCell (by assumption) h.2) 6 rfl ?_))
        clear h a w; intro a w h
        (try simp only [List.set_cons_zero, List.set_cons_succ] at h)
        rw [show (n : Int) + 1 = ((n + 1 : Nat) : Int) by omega] at h
        replace h := h.mem JnI_shut
        refine wnil (c_then ?_)
        refine c_seq (c_region ?_)
        refine wv h (r_move h rfl) rfl ?_
        clear h a w; intro a w h
        refine wv h (r_move h rfl) rfl ?_
        clear h a w; intro a w h
        refine wl rfl (op_call h rfl K.go_journal_Journal_apply (jn_apply s _ bj b (n + 1) D1 lv l _ 0 rfl hro.1 (by omega) (by exact hv) (by exact hp) h.2) rfl ?_)
        clear h a w; intro x a w hx h
        (try simp only [List.set_cons_zero, List.set_cons_succ] at h)
        refine wv h (r_assign h rfl) rfl ?_
        clear h a w; intro a w h
        refine wnil (c_then ?_)
        refine c_ret ?_
        exact ret1 h rfl rfl ⟨(), by rw [hjw], by rw [hjw]; exact h.2, trivial⟩
end Go.Proofs.K
