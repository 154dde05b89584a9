/- The law of layer 5 on any transactions, walked. -/
import Derived.Test.YtnplbpmdehcknaaLaw05f
set_option linter.unusedVariables false
set_option linter.unusedSimpArgs false
set_option maxRecDepth 10000
set_option maxHeartbeats 2000000
namespace Go.Sl
theorem Sat.pull3 {s w : World} {o a b c : HItem} {G L : List HItem} (h : Sat s w (o :: (G ++ (a :: b :: c :: L)))) : Sat s w (a :: b :: c :: o :: (G ++ L)) := by
  refine h.perm ?_
  have p1 : (G ++ (a :: b :: c :: L)).Perm ([a, b, c] ++ (G ++ L)) := by
    have : G ++ (a :: b :: c :: L) = (G ++ [a, b, c]) ++ L := by simp
    rw [this, ← List.append_assoc]
    exact List.Perm.append_right L List.perm_append_comm
  exact (p1.cons o).trans (List.perm_middle (l₁ := [a, b, c])).symm
theorem Views.perm' {L M : List HItem} {size : Nat} {v : Value} {n : Nat} {xs : List Value} (hp : L.Perm M) (hv : Views L size v n xs) : Views M size v n xs := fun h hm => hv h (sepL_perm hp.symm _ hm)
theorem OkV.app {L : List HItem} {l : List PgV} (h : OkV L l) (X : List HItem) : OkV (L ++ X) l := fun x hx => ⟨Views.perm' List.perm_append_comm ((h x hx).1.prep X), (h x hx).2⟩
theorem Sat.dropIn {s w : World} {a b : HItem} {G J L : List HItem} (h : Sat s w (a :: b :: (G ++ (J ++ L)))) : Sat s w (a :: b :: (G ++ L)) := by
  have p : (a :: b :: (G ++ (J ++ L))).Perm (J ++ (a :: b :: (G ++ L))) := by
    have e1 : a :: b :: (G ++ (J ++ L)) = (a :: b :: G) ++ (J ++ L) := rfl
    have e2 : a :: b :: (G ++ L) = (a :: b :: G) ++ L := rfl
    rw [e1, e2, ← List.append_assoc, ← List.append_assoc]
    exact List.Perm.append_right L List.perm_append_comm
  have := (h.perm p).drop J.length
  rwa [List.drop_left] at this
theorem Sat.dropApp2 {s w : World} {G F : List HItem} (h : Sat s w (G ++ F)) : Sat s w F := by
  have := h.drop G.length
  rwa [List.drop_left] at this
theorem Jn.plays_write {D : Dk} {m : List B64} {n : Nat} {A : Int} {l : List Pg} (h : Jn.JS D m n A) (c : Int) (hc : c ≤ 9223372036854775807) (hp : Jn.okP m.length l) (ha : A + 76 ≤ 1000000000) (hn : n < 4294967296) :
    (Jn.jW (D.arm c) n l).1.ok ∧ (Jn.jW (D.arm c) n l).1.acts ≤ A + 76 ∧
    (((Jn.jW (D.arm c) n l).2.2 = 0 ∧ (Jn.jW (D.arm c) n l).2.1 ≤ n + 1 ∧ 0 < (Jn.jW (D.arm c) n l).2.1 ∧ Jn.Rest (Jn.jW (D.arm c) n l).1 (Jn.put m l) (Jn.jW (D.arm c) n l).2.1) ∨
    ((Jn.jW (D.arm c) n l).2.2 = 9 ∧ ∀ k, ∃ m', (m' = m ∨ m' = Jn.put m l) ∧ Jn.JM ((Jn.jW (D.arm c) n l).1.crash k) m' (n + 1) (A + 76))) := by
  by_cases hne : l = []
  · subst hne
    have e : Jn.jW (D.arm c) n [] = (D.arm c, n, 0) := by
      rw [Jn.jW, if_neg (by simp), if_neg (fun q => q (by simp)), if_pos (show ([] : List Pg).length = 0 from rfl)]
    rw [e]
    have hok := Dk.arm_ok h.ok hc
    exact ⟨hok.1, by have := hok.2; have := h.acts; dsimp only; omega, .inl ⟨rfl, by dsimp only; omega, h.pos, Jn.arm_rest h.rest c⟩⟩
  · obtain ⟨h1, h2, h3⟩ := Jn.arm_write h c hc hp hne ha hn
    refine ⟨h1, h2, h3.imp (fun ⟨g1, g2, g3⟩ => ?_) id⟩
    rw [g2]
    exact ⟨g1, Nat.le_refl _, by omega, g3⟩
theorem Jn.arm_same {D : Dk} (h : D.left = -1) : D.arm (-1) = D := by
  unfold Dk.arm
  cases D
  simp_all
/-- what the law holds -/
structure PJ where
  bj : Nat
  D : Dk
  n : Nat
  vm : Value
  M : List Value
  m : List B64
  G : List HItem
def PJok (F : List HItem) (i : Nat) (x : PJ) : Prop := Jn.JS x.D x.m x.n (26 + 128 * i) ∧ x.n ≤ i + 1 ∧ x.m.length = 12 ∧ RowsV (x.G ++ F) x.M x.m
end Go.Sl
namespace Go.Proofs.K
open Go.Sl
attribute [local irreducible] Go.Sl.Own Go.Sl.Blk Go.Sl.Sep Go.Sl.Ex Go.Sl.Fact
attribute [local irreducible] DiskI
attribute [local irreducible] JnI

theorem journalPlays (s w : World) (av : Value) (acts : List JA) (again : UInt8) (F : List HItem) (hav : Views F 4 av acts.length (acts.flatMap cellsJA)) (hap : ∀ a ∈ acts, ViewsB F (.slice a.aa a.al a.ac) a.at_ ∧ ViewsB F (.slice a.pa a.pl a.pc) a.p ∧ ViewsB F (.slice a.ma a.ml a.mc) a.mask) (hs : Sat s w F) :
    Calls P n_law05_JournalPlays #[av, bv again] w (Ret s (fun _ : Unit => .bool true) (fun _ => F) (fun _ => True)) := by
  have hlen := Views.len_le hav hs
  refine enter K.fn_law05_JournalPlays rfl K.nt_law05_JournalPlays rfl hs ?_
  clear hs w; intro a w h
  refine c_seq (c_region ?_)
  refine wv h (r_assign h rfl) rfl ?_
  clear h a w; intro a w h
  refine wnil (c_then ?_)
  refine c_seq ?_
  refine c_seq (c_region ?_)
  refine wl rfl (op_call h rfl K.go_law05_awake (law05_awake s _ _ h.2) rfl ?_)
  clear h a w; intro x a w hx h
  (try simp only [List.set_cons_zero, List.set_cons_succ] at h)
  refine wv h (r_not h rfl) rfl ?_
  clear h a w; intro a w h
  refine wv h (r_move h rfl) rfl ?_
  clear h a w; intro a w h
  refine wvG h (by first | exact .t rfl | exact .f rfl | exact .gt rfl | exact .gf rfl) (fun hg => by (try simp only [↓gval_on hg, ↓gval_and hg] at h); (have hg2 := hg; (try simp only [Bool.and_eq_true, Bool.or_eq_true, Bool.not_eq_true', decide_eq_true_eq, decide_eq_false_iff_not] at hg2)); first | exact r_move h rfl) rfl ?_
  clear h a w; intro a w h
  refine wvG h (by first | exact .t rfl | exact .f rfl | exact .gt rfl | exact .gf rfl) (fun hg => by (try simp only [↓gval_on hg, ↓gval_and hg] at h); (have hg2 := hg; (try simp only [Bool.and_eq_true, Bool.or_eq_true, Bool.not_eq_true', decide_eq_true_eq, decide_eq_false_iff_not] at hg2)); first | exact r_lenV h rfl K.u_S_interleaflaw05_Act (by first | exact Views.own 0 rfl | exact Views.own 1 rfl | exact Views.own 2 rfl | exact Views.own 3 rfl | exact Views.own 4 rfl | exact Views.own 5 rfl | assumption | exact Views.of_drop 1 (by assumption) | exact Views.of_drop 2 (by assumption) | exact Views.of_drop 3 (by assumption) | exact Views.of_drop 4 (by assumption) | exact Views.of_drop 5 (by assumption) | exact Views.of_drop 6 (by assumption) | exact Views.of_drop 7 (by assumption) | exact Views.of_drop 8 (by assumption) | exact Views.of_drop 9 (by assumption) | exact Views.of_drop 10 (by assumption) | exact Views.of_drop 11 (by assumption) | exact Views.of_drop 12 (by assumption))) rfl ?_
  clear h a w; intro a w h
  refine wvG h (by first | exact .t rfl | exact .f rfl | exact .gt rfl | exact .gf rfl) (fun hg => by (try simp only [↓gval_on hg, ↓gval_and hg] at h); (have hg2 := hg; (try simp only [Bool.and_eq_true, Bool.or_eq_true, Bool.not_eq_true', decide_eq_true_eq, decide_eq_false_iff_not] at hg2)); first | exact r_bin h rfl rfl (B.gtr_int)) rfl ?_
  clear h a w; intro a w h
  first
    | (refine wv h (r_pickA h rfl rfl rfl) rfl ?_)
    | (refine wv h (r_pickO h rfl rfl rfl) rfl ?_)
    | (refine wv h (r_pick_true h rfl rfl) rfl ?_)
    | (refine wv h (r_pick_false h rfl rfl) rfl ?_)
    | (refine wv h (r_pick h rfl rfl rfl) rfl ?_)
  clear h a w; intro a w h
  refine wnil (c_then ?_)
  first
   | refine c_condD h rfl (fun ht1 => ?_) (fun ht1 => ?_)
   | refine c_condP h rfl (by first | (simp only [Bool.and_eq_true, Bool.or_eq_true, Bool.not_eq_true', decide_eq_true_eq, decide_eq_false_iff_not, ne_eq, Bool.not_eq_eq_eq_not, Bool.not_true, beq_iff_eq, bne_iff_ne]; exact Iff.rfl) | exact Iff.rfl) (fun ht1 => ?_) (fun ht1 => ?_)
  ·
   as_aux_lemma =>
    refine c_seq (c_region ?_)
    refine wl rfl (op_call h rfl K.go_law05_awake (law05_awake s _ _ h.2) rfl ?_)
    clear h a w; intro x a w hx h
    (try simp only [List.set_cons_zero, List.set_cons_succ] at h)
    refine wv h (r_assign h rfl) rfl ?_
    clear h a w; intro a w h
    refine wnil (c_then ?_)
    refine c_ret ?_
    exact ret1 h rfl rfl ⟨(), rfl, (by first | exact h.2 | exact h.2.drop 1 | exact h.2.drop 2 | exact h.2.drop 3 | exact h.2.drop 4 | exact h.2.drop 5 | exact h.2.drop 6 | exact h.2.drop 7 | exact h.2.drop 8 | exact h.2.drop 9 | exact h.2.drop 10 | exact h.2.drop 11 | exact h.2.drop 12 | exact h.2.drop 13 | exact h.2.drop 14 | exact h.2.drop 15 | exact h.2.drop 16), trivial⟩
  ·
   have hl15 : acts.length ≤ 15 := by omega
   refine c_skip ?_
   refine c_then ?_
   refine c_seq (c_region ?_)
   refine wl rfl (op_call h rfl K.go_disk_New (disk_New s _ _ _ h.2) rfl ?_)
   clear h a w; intro b9 a w hx h
   (try simp only [List.set_cons_zero, List.set_cons_succ] at h)
   rw [show (min (max (61 : Int) 0) 4096).toNat = 49 + 12 from rfl] at h
   have J0 := Jn.js_new 12 (by decide)
   obtain ⟨o1, o2, o3⟩ := Jn.js_open J0 (by decide)
   generalize Dk.new (49 + 12) = D0 at *
   refine wv h (r_assign h rfl) rfl ?_
   clear h a w; intro a w h
   refine wnil (c_then ?_)
   refine c_seq (c_region ?_)
   refine wv h (r_move h rfl) rfl ?_
   clear h a w; intro a w h
   refine wl rfl (op_call h rfl K.go_journal_Open (jn_Open s _ b9 D0 _ J0.ok J0.mid.off (by rw [J0.len]; simp) (by have := J0.acts; omega) h.2) rfl ?_)
   clear h a w; intro bj a w hx h
   (try simp only [List.set_cons_zero, List.set_cons_succ] at h)
   rw [if_pos o1, o1] at h
   generalize (Jn.openN D0).1 = D1 at *
   generalize Jn.nextN D0.read 49 = n1 at *
   refine wv h (r_move h rfl) rfl ?_
   clear h a w; intro a w h
   refine wv h (r_extractN h rfl rfl) rfl ?_
   clear h a w; intro a w h
   refine wv h (r_extractN h rfl rfl) rfl ?_
   clear h a w; intro a w h
   refine wv h (r_assign h rfl) rfl ?_
   clear h a w; intro a w h
   refine wv h (r_assign h rfl) rfl ?_
   clear h a w; intro a w h
   refine wnil (c_then ?_)
   refine c_seq ?_
   refine c_seq (c_region ?_)
   refine wv h (r_move h rfl) rfl ?_
   clear h a w; intro a w h
   refine wv h (r_bin h rfl rfl (B.neq_int)) rfl ?_
   clear h a w; intro a w h
   refine wnil (c_then ?_)
   first
    | refine c_condD h rfl (fun ht2 => ?_) (fun ht2 => ?_)
    | refine c_condP h rfl (by first | (simp only [Bool.and_eq_true, Bool.or_eq_true, Bool.not_eq_true', decide_eq_true_eq, decide_eq_false_iff_not, ne_eq, Bool.not_eq_eq_eq_not, Bool.not_true, beq_iff_eq, bne_iff_ne]; exact Iff.rfl) | exact Iff.rfl) (fun ht2 => ?_) (fun ht2 => ?_)
   ·
    exfalso
    simp at ht2
   ·
    refine c_skip ?_
    refine c_then ?_
    refine c_seq (c_region ?_)
    refine wv h (r_assign h rfl) rfl ?_
    clear h a w; intro a w h
    replace h := (h.addNilL (enc := id)).front 1 rfl
    refine wnil (c_then ?_)
    refine c_seq ?_
    refine c_seq (c_region ?_)
    refine wv h (r_assign h rfl) rfl ?_
    clear h a w; intro a w h
    refine wnil (c_then ?_)
    refine c_block ?_
    refine c_loopX h (X := Nat × Value × List Value × List HItem) (fun x => [(0, av), (1, bv again), (5, dp b9), (6, dp bj), (8, x.2.1), (9, .int .i64 (x.1 : Int))])
      (fun x => JnI bj b9 D1 n1 :: OwnL id x.2.1 x.2.2.1 :: (x.2.2.2 ++ F)) (fun x => x.1 ≤ 12 ∧ RowsV (x.2.2.2 ++ F) x.2.2.1 (List.replicate x.1 B64.zero)) (fun x => 12 - x.1) (0, .slice none 0 0, [], []) (h.keep [0, 1, 5, 6, 8, 9])
      ⟨Nat.zero_le _, rfl, fun j u hu => by simp at hu⟩ ?_
    clear h a w; intro x a w hx h
    obtain ⟨i, vm, M, G⟩ := x
    obtain ⟨hx1, hx2⟩ := hx
    dsimp only at hx1 hx2 h
    have hMl := hx2.1
    rw [List.length_replicate] at hMl
    as_aux_lemma =>
     refine c_seq ?_
     refine c_seq (c_region ?_)
     refine wv h (r_move h rfl) rfl ?_
     clear h a w; intro a w h
     refine wv h (r_bin h rfl rfl (B.lss_int)) rfl ?_
     clear h a w; intro a w h
     refine wnil (c_then ?_)
     first
      | refine c_condD h rfl (fun ht3 => ?_) (fun ht3 => ?_)
      | refine c_condP h rfl (by first | (simp only [Bool.and_eq_true, Bool.or_eq_true, Bool.not_eq_true', decide_eq_true_eq, decide_eq_false_iff_not, ne_eq, Bool.not_eq_eq_eq_not, Bool.not_true, beq_iff_eq, bne_iff_ne]; exact Iff.rfl) | exact Iff.rfl) (fun ht3 => ?_) (fun ht3 => ?_)
     ·
      refine c_skip ?_
      refine c_then ?_
      refine c_seq ?_
      refine c_block ?_
      refine c_region ?_
      refine wv h (r_move h rfl) rfl ?_
      clear h a w; intro a w h
      refine wl rfl (op_mkB h K.u_S_uint8 K.sz_uint8 K.z_uint8 rfl rfl (by omega) (by omega) (by first | omega | (simp only [List.length_cons, List.length_nil]; omega) | (simp; done) | (simp; omega)) (by first | omega | (simp only [List.length_cons, List.length_nil]; omega) | (simp; done) | (simp; omega)) rfl rfl ?_)
      clear h a w; intro v39 a w h
      refine wl rfl (op_buildO h K.u_S_S_uint8 K.sz_S_uint8 K.z_S_uint8 rfl rfl rfl rfl (by simp only [List.mem_cons, List.not_mem_nil, or_false, forall_eq_or_imp, forall_eq]; (repeat' apply And.intro) <;> first | rfl | assumption | exact Views.oneCell (Views.own 0 rfl) h.2 | exact Views.oneCell (Views.own 1 rfl) h.2 | exact Views.oneCell (Views.own 2 rfl) h.2 | exact Views.oneCell (Views.own 3 rfl) h.2 | exact Views.oneCell (Views.own 4 rfl) h.2 | exact Views.oneCell (Views.own 5 rfl) h.2 | exact Views.oneCell (Views.own 6 rfl) h.2 | exact Views.oneCell (Views.own 7 rfl) h.2 | exact Views.oneCell (by assumption) h.2) rfl ?_)
      clear h a w; intro b40 a w h
      refine wl rfl (op_appendL1R (enc := id) (u := v39) h (Views.oneCell (ViewsB.own 1 rfl) h.2) rfl rfl K.u_S_S_uint8 K.sz_S_uint8 K.z_S_uint8 rfl rfl 2 rfl (by omega) rfl ?_)
      clear h a w; intro v41 a w hR h
      clear hR
      simp only [List.set_cons_zero, List.set_cons_succ] at h
      refine wv h (r_assign h rfl) rfl ?_
      clear h a w; intro a w h
      refine wnil ?_
      refine b_normal ?_
      refine c_then ?_
      refine c_region ?_
      refine wv h (r_move h rfl) rfl ?_
      clear h a w; intro a w h
      refine wv h (r_bin h rfl rfl (B.add_i64 (by omega) (by omega))) rfl ?_
      clear h a w; intro a w h
      refine wv h (r_assign h rfl) rfl ?_
      clear h a w; intro a w h
      refine wnil ?_
      refine ⟨(i + 1, v41, M ++ [v39], OwnB v39 (List.replicate 64 0) :: G), h.mem (fun z => z.back 2 (by show 2 ≤ (G ++ F).length + 2; omega)) |>.keep [0, 1, 5, 6, 8, 9], ⟨by show i + 1 ≤ 12; omega, by simp [hMl], fun j u hj => ?_⟩, by show 12 - (i + 1) < 12 - i; omega⟩
      have hj2 : (M ++ [v39])[j]? = some u := hj
      have hjl : j < i + 1 := by have := (List.getElem?_eq_some_iff.1 hj2).1; simp at this; omega
      show ViewsB (OwnB v39 (List.replicate 64 0) :: (G ++ F)) u ((List.replicate (i + 1) B64.zero).getD j B64.zero).val
      rw [show (List.replicate (i + 1) B64.zero).getD j B64.zero = B64.zero by simp [List.getD_eq_getElem?_getD, hjl]]
      rcases Nat.lt_or_ge j i with e | e
      · rw [List.getElem?_append_left (by omega)] at hj2
        have := hx2.2 j u hj2
        rw [show (List.replicate i B64.zero).getD j B64.zero = B64.zero by simp [List.getD_eq_getElem?_getD, e]] at this
        exact this.cons _
      · rw [List.getElem?_append_right (by omega)] at hj2
        have : j - M.length = 0 := by omega
        rw [this] at hj2
        cases hj2
        exact ViewsB.own 0 rfl
     ·
      obtain rfl : i = 12 := by omega
      refine c_exit ?_
      refine e_then ?_
      refine e_then ?_
      refine e_here ?_
      refine c_then ?_
      refine c_seq ?_
      refine c_seq (c_region ?_)
      refine wv h (r_assign h rfl) rfl ?_
      clear h a w; intro a w h
      refine wnil (c_then ?_)
      refine c_block ?_
      refine c_loopX h (X := Nat × PJ) (fun x => [(0, av), (1, bv again), (5, dp b9), (6, dp x.2.bj), (8, x.2.vm), (10, .int .i64 (x.1 : Int))])
        (fun x => JnI x.2.bj b9 x.2.D x.2.n :: OwnL id x.2.vm x.2.M :: (x.2.G ++ F)) (fun x => x.1 ≤ acts.length ∧ PJok F x.1 x.2) (fun x => acts.length - x.1) (0, ⟨bj, D1, n1, vm, M, List.replicate 12 B64.zero, G⟩) (h.keep [0, 1, 5, 6, 8, 10])
        ⟨Nat.zero_le _, by simpa using o2, by simpa using o3, by simp, hx2⟩ ?_
      clear h a w; intro x a w hx h
      obtain ⟨i, ⟨bj1, D, n, vm1, M1, m, G1⟩⟩ := x
      obtain ⟨hy1, hJ, hn, hm12, hRV⟩ := hx
      dsimp only at hy1 hJ hn hm12 hRV h
      have havG := Views.prep hav G1
      as_aux_lemma =>
       refine c_seq ?_
       refine c_seq (c_region ?_)
       refine wv h (r_move h rfl) rfl ?_
       clear h a w; intro a w h
       refine wv h (r_move h rfl) rfl ?_
       clear h a w; intro a w h
       refine wv h (r_lenV h rfl K.u_S_interleaflaw05_Act (by first | exact Views.own 0 rfl | exact Views.own 1 rfl | exact Views.own 2 rfl | exact Views.own 3 rfl | exact Views.own 4 rfl | exact Views.own 5 rfl | assumption | exact Views.of_drop 1 (by assumption) | exact Views.of_drop 2 (by assumption) | exact Views.of_drop 3 (by assumption) | exact Views.of_drop 4 (by assumption) | exact Views.of_drop 5 (by assumption) | exact Views.of_drop 6 (by assumption) | exact Views.of_drop 7 (by assumption) | exact Views.of_drop 8 (by assumption) | exact Views.of_drop 9 (by assumption) | exact Views.of_drop 10 (by assumption) | exact Views.of_drop 11 (by assumption) | exact Views.of_drop 12 (by assumption))) rfl ?_
       clear h a w; intro a w h
       refine wv h (r_bin h rfl rfl (B.lss_int)) rfl ?_
       clear h a w; intro a w h
       refine wnil (c_then ?_)
       first
        | refine c_condD h rfl (fun ht4 => ?_) (fun ht4 => ?_)
        | refine c_condP h rfl (by first | (simp only [Bool.and_eq_true, Bool.or_eq_true, Bool.not_eq_true', decide_eq_true_eq, decide_eq_false_iff_not, ne_eq, Bool.not_eq_eq_eq_not, Bool.not_true, beq_iff_eq, bne_iff_ne]; exact Iff.rfl) | exact Iff.rfl) (fun ht4 => ?_) (fun ht4 => ?_)
       ·
        obtain ⟨A, hA⟩ : ∃ A, acts[i]? = some A := ⟨acts[i], by simp⟩
        obtain ⟨hA1, hA2, hA3⟩ := hap A (List.mem_of_getElem? hA)
        have hA1G := ViewsB.prep hA1 G1
        have hA2G := ViewsB.prep hA2 G1
        have hA3G := ViewsB.prep hA3 G1
        refine c_skip ?_
        refine c_then ?_
        refine c_seq ?_
        refine c_block ?_
        refine c_seq (c_region ?_)
        refine wv h (r_move h rfl) rfl ?_
        clear h a w; intro a w h
        refine wv h (r_move h rfl) rfl ?_
        clear h a w; intro a w h
        refine wv h (r_elP h rfl rfl K.u_S_interleaflaw05_Act K.sz_interleaflaw05_Act (by first | exact Views.own 0 rfl | exact Views.own 1 rfl | exact Views.own 2 rfl | exact Views.own 3 rfl | exact Views.own 4 rfl | exact Views.own 5 rfl | assumption | exact Views.of_drop 1 (by assumption) | exact Views.of_drop 2 (by assumption) | exact Views.of_drop 3 (by assumption) | exact Views.of_drop 4 (by assumption) | exact Views.of_drop 5 (by assumption) | exact Views.of_drop 6 (by assumption) | exact Views.of_drop 7 (by assumption) | exact Views.of_drop 8 (by assumption) | exact Views.of_drop 9 (by assumption) | exact Views.of_drop 10 (by assumption) | exact Views.of_drop 11 (by assumption) | exact Views.of_drop 12 (by assumption)) (by first | omega | (simp; done)) (by first | omega | (simp only [List.length_cons, List.length_nil]; omega) | (simp; done) | (simp; omega))) rfl ?_
        clear h a w; intro a w h
        first
                | (refine wv h (r_elM h rfl K.u_interleaflaw05_Act rfl K.sz_interleaflaw05_Act rfl (by first | exact Views.own 0 rfl | exact Views.own 1 rfl | exact Views.own 2 rfl | exact Views.own 3 rfl | exact Views.own 4 rfl | exact Views.own 5 rfl | assumption | exact Views.of_drop 1 (by assumption) | exact Views.of_drop 2 (by assumption) | exact Views.of_drop 3 (by assumption) | exact Views.of_drop 4 (by assumption) | exact Views.of_drop 5 (by assumption) | exact Views.of_drop 6 (by assumption) | exact Views.of_drop 7 (by assumption) | exact Views.of_drop 8 (by assumption) | exact Views.of_drop 9 (by assumption) | exact Views.of_drop 10 (by assumption) | exact Views.of_drop 11 (by assumption) | exact Views.of_drop 12 (by assumption)) (by assumption)) rfl ?_)
                | (refine wv h (r_elMd h rfl K.u_interleaflaw05_Act rfl K.sz_interleaflaw05_Act rfl (by first | exact Views.own 0 rfl | exact Views.own 1 rfl | exact Views.own 2 rfl | exact Views.own 3 rfl | exact Views.own 4 rfl | exact Views.own 5 rfl | assumption | exact Views.of_drop 1 (by assumption) | exact Views.of_drop 2 (by assumption) | exact Views.of_drop 3 (by assumption) | exact Views.of_drop 4 (by assumption) | exact Views.of_drop 5 (by assumption) | exact Views.of_drop 6 (by assumption) | exact Views.of_drop 7 (by assumption) | exact Views.of_drop 8 (by assumption) | exact Views.of_drop 9 (by assumption) | exact Views.of_drop 10 (by assumption) | exact Views.of_drop 11 (by assumption) | exact Views.of_drop 12 (by assumption)) (by first | omega | (simp only [List.length_cons, List.length_nil]; omega) | (simp; done) | (simp; omega))) rfl ?_)
        clear h a w; intro a w h
        refine wl rfl (op_alloc h K.z_interleaflaw05_Act rfl ?_)
        clear h a w; intro b11 a w h
        first
                | (refine wl rfl (op_stA h rfl rfl K.sz_interleaflaw05_Act (by first | exact Row.len _ | rfl | assumption | (simp; done) | (simp; omega) | omega) (by first | exact Row.one _ | exact bs_one _ | assumption | (simp; done) | (simp; (repeat' apply And.intro) <;> first | rfl | assumption)) 0 rfl (by first | rfl | assumption | (simp; done) | (simp; omega) | omega) ?_))
                | (refine wl rfl (op_stA h rfl rfl K.sz_interleaflaw05_Act (by first | exact Row.len _ | rfl | assumption | (simp; done) | (simp; omega) | omega) (by first | exact Row.one _ | exact bs_one _ | assumption | (simp; done) | (simp; (repeat' apply And.intro) <;> first | rfl | assumption)) 1 rfl (by first | rfl | assumption | (simp; done) | (simp; omega) | omega) ?_))
                | (refine wl rfl (op_stA h rfl rfl K.sz_interleaflaw05_Act (by first | exact Row.len _ | rfl | assumption | (simp; done) | (simp; omega) | omega) (by first | exact Row.one _ | exact bs_one _ | assumption | (simp; done) | (simp; (repeat' apply And.intro) <;> first | rfl | assumption)) 2 rfl (by first | rfl | assumption | (simp; done) | (simp; omega) | omega) ?_))
                | (refine wl rfl (op_stA h rfl rfl K.sz_interleaflaw05_Act (by first | exact Row.len _ | rfl | assumption | (simp; done) | (simp; omega) | omega) (by first | exact Row.one _ | exact bs_one _ | assumption | (simp; done) | (simp; (repeat' apply And.intro) <;> first | rfl | assumption)) 3 rfl (by first | rfl | assumption | (simp; done) | (simp; omega) | omega) ?_))
                | (refine wl rfl (op_stA h rfl rfl K.sz_interleaflaw05_Act (by first | exact Row.len _ | rfl | assumption | (simp; done) | (simp; omega) | omega) (by first | exact Row.one _ | exact bs_one _ | assumption | (simp; done) | (simp; (repeat' apply And.intro) <;> first | rfl | assumption)) 4 rfl (by first | rfl | assumption | (simp; done) | (simp; omega) | omega) ?_))
                | (refine wl rfl (op_stA h rfl rfl K.sz_interleaflaw05_Act (by first | exact Row.len _ | rfl | assumption | (simp; done) | (simp; omega) | omega) (by first | exact Row.one _ | exact bs_one _ | assumption | (simp; done) | (simp; (repeat' apply And.intro) <;> first | rfl | assumption)) 5 rfl (by first | rfl | assumption | (simp; done) | (simp; omega) | omega) ?_))
        clear h a w; intro a w h
        (try simp only [List.set_cons_zero, List.set_cons_succ] at h)
        refine wnil (c_then ?_)
        refine c_seq ?_
        refine c_seq (c_region ?_)
        refine wv h (r_fieldAddr h 1 rfl K.u_interleaflaw05_Act rfl K.sz_S_uint8 rfl rfl) rfl ?_
        clear h a w; intro a w h
        first
                | (refine wv h (r_ldN h rfl K.u_S_uint8 rfl 0 rfl rfl) rfl ?_)
                | (refine wv h (r_ldN h rfl K.u_S_uint8 rfl 1 rfl rfl) rfl ?_)
                | (refine wv h (r_ldN h rfl K.u_S_uint8 rfl 2 rfl rfl) rfl ?_)
                | (refine wv h (r_ldN h rfl K.u_S_uint8 rfl 3 rfl rfl) rfl ?_)
                | (refine wv h (r_ldN h rfl K.u_S_uint8 rfl 4 rfl rfl) rfl ?_)
                | (refine wv h (r_ldN h rfl K.u_S_uint8 rfl 5 rfl rfl) rfl ?_)
                | (refine wv h (r_ldN h rfl K.u_S_uint8 rfl 6 rfl rfl) rfl ?_)
                | (refine wv h (r_ldC (o := 1) h rfl K.u_S_uint8 rfl 0 rfl) rfl ?_)
                | (refine wv h (r_ldC (o := 1) h rfl K.u_S_uint8 rfl 1 rfl) rfl ?_)
                | (refine wv h (r_ldC (o := 1) h rfl K.u_S_uint8 rfl 2 rfl) rfl ?_)
                | (refine wv h (r_ldC (o := 1) h rfl K.u_S_uint8 rfl 3 rfl) rfl ?_)
                | (refine wv h (r_ldC (o := 1) h rfl K.u_S_uint8 rfl 4 rfl) rfl ?_)
                | (refine wv h (r_ldC (o := 1) h rfl K.u_S_uint8 rfl 5 rfl) rfl ?_)
                | (refine wv h (r_ldC (o := 1) h rfl K.u_S_uint8 rfl 6 rfl) rfl ?_)
                | (refine wv h (r_load h rfl K.u_S_uint8 rfl 0 rfl rfl) rfl ?_)
                | (refine wv h (r_load h rfl K.u_S_uint8 rfl 1 rfl rfl) rfl ?_)
                | (refine wv h (r_load h rfl K.u_S_uint8 rfl 2 rfl rfl) rfl ?_)
                | (refine wv h (r_load h rfl K.u_S_uint8 rfl 3 rfl rfl) rfl ?_)
                | (refine wv h (r_load h rfl K.u_S_uint8 rfl 4 rfl rfl) rfl ?_)
                | (refine wv h (r_load h rfl K.u_S_uint8 rfl 5 rfl rfl) rfl ?_)
                | (refine wv h (r_load1 h rfl K.u_S_uint8 rfl (by assumption)) rfl ?_)
        clear h a w; intro a w h
        refine wv h (r_lenB h rfl K.u_S_uint8 (by first | exact ViewsB.own 0 rfl | exact ViewsB.own 1 rfl | exact ViewsB.own 2 rfl | exact ViewsB.own 3 rfl | exact ViewsB.own 4 rfl | exact ViewsB.own 5 rfl | assumption | exact ViewsB.nil _ | exact ViewsB.arr 0 rfl (by first | assumption | rfl | (simp; done)) (Nat.le_refl _) (by simp [maxLen]) | exact ViewsB.arr 1 rfl (by first | assumption | rfl | (simp; done)) (Nat.le_refl _) (by simp [maxLen]) | exact ViewsB.arr 2 rfl (by first | assumption | rfl | (simp; done)) (Nat.le_refl _) (by simp [maxLen]) | exact ViewsB.arr 3 rfl (by first | assumption | rfl | (simp; done)) (Nat.le_refl _) (by simp [maxLen]) | exact ViewsB.arr 4 rfl (by first | assumption | rfl | (simp; done)) (Nat.le_refl _) (by simp [maxLen]) | exact ViewsB.of_drop 1 (by assumption) | exact ViewsB.of_drop 2 (by assumption) | exact ViewsB.of_drop 3 (by assumption) | exact ViewsB.of_drop 4 (by assumption) | exact ViewsB.of_drop 5 (by assumption) | exact ViewsB.of_drop 6 (by assumption) | exact ViewsB.of_drop 7 (by assumption) | exact ViewsB.of_drop 8 (by assumption) | exact ViewsB.of_drop 9 (by assumption) | exact ViewsB.of_drop 10 (by assumption) | exact ViewsB.of_drop 11 (by assumption) | exact ViewsB.of_drop 12 (by assumption) | exact ViewsB.sub (by first | exact ViewsB.own 0 rfl | exact ViewsB.own 1 rfl | exact ViewsB.own 2 rfl | exact ViewsB.own 3 rfl | exact ViewsB.own 4 rfl | exact ViewsB.own 5 rfl | assumption | exact ViewsB.nil _ | exact ViewsB.arr 0 rfl (by first | assumption | rfl | (simp; done)) (Nat.le_refl _) (by simp [maxLen]) | exact ViewsB.arr 1 rfl (by first | assumption | rfl | (simp; done)) (Nat.le_refl _) (by simp [maxLen]) | exact ViewsB.arr 2 rfl (by first | assumption | rfl | (simp; done)) (Nat.le_refl _) (by simp [maxLen]) | exact ViewsB.arr 3 rfl (by first | assumption | rfl | (simp; done)) (Nat.le_refl _) (by simp [maxLen]) | exact ViewsB.arr 4 rfl (by first | assumption | rfl | (simp; done)) (Nat.le_refl _) (by simp [maxLen]) | exact ViewsB.of_drop 1 (by assumption) | exact ViewsB.of_drop 2 (by assumption) | exact ViewsB.of_drop 3 (by assumption) | exact ViewsB.of_drop 4 (by assumption) | exact ViewsB.of_drop 5 (by assumption) | exact ViewsB.of_drop 6 (by assumption) | exact ViewsB.of_drop 7 (by assumption) | exact ViewsB.of_drop 8 (by assumption) | exact ViewsB.of_drop 9 (by assumption) | exact ViewsB.of_drop 10 (by assumption) | exact ViewsB.of_drop 11 (by assumption) | exact ViewsB.of_drop 12 (by assumption)) (by omega) (by first | omega | (simp; done) | (simp; omega)))) rfl ?_
        clear h a w; intro a w h
        refine wv h (r_bin h rfl rfl (B.gtr_int)) rfl ?_
        clear h a w; intro a w h
        refine wv h (r_move h rfl) rfl ?_
        clear h a w; intro a w h
        refine wvG h (by first | exact .t rfl | exact .f rfl | exact .gt rfl | exact .gf rfl) (fun hg => by (try simp only [↓gval_on hg, ↓gval_and hg] at h); (have hg2 := hg; (try simp only [Bool.and_eq_true, Bool.or_eq_true, Bool.not_eq_true', decide_eq_true_eq, decide_eq_false_iff_not] at hg2)); first | exact r_fieldAddr h 3 rfl K.u_interleaflaw05_Act rfl K.sz_S_uint8 rfl rfl) rfl ?_
        clear h a w; intro a w h
        refine wvG h (by first | exact .t rfl | exact .f rfl | exact .gt rfl | exact .gf rfl) (fun hg => by (try simp only [↓gval_on hg, ↓gval_and hg] at h); (have hg2 := hg; (try simp only [Bool.and_eq_true, Bool.or_eq_true, Bool.not_eq_true', decide_eq_true_eq, decide_eq_false_iff_not] at hg2)); first | exact r_ldN h rfl K.u_S_uint8 rfl 0 rfl rfl | exact r_ldN h rfl K.u_S_uint8 rfl 1 rfl rfl | exact r_ldN h rfl K.u_S_uint8 rfl 2 rfl rfl | exact r_ldN h rfl K.u_S_uint8 rfl 3 rfl rfl | exact r_ldN h rfl K.u_S_uint8 rfl 4 rfl rfl | exact r_ldN h rfl K.u_S_uint8 rfl 5 rfl rfl | exact r_ldN h rfl K.u_S_uint8 rfl 6 rfl rfl | exact r_ldC (o := 3) h rfl K.u_S_uint8 rfl 0 rfl | exact r_ldC (o := 3) h rfl K.u_S_uint8 rfl 1 rfl | exact r_ldC (o := 3) h rfl K.u_S_uint8 rfl 2 rfl | exact r_ldC (o := 3) h rfl K.u_S_uint8 rfl 3 rfl | exact r_ldC (o := 3) h rfl K.u_S_uint8 rfl 4 rfl | exact r_ldC (o := 3) h rfl K.u_S_uint8 rfl 5 rfl | exact r_ldC (o := 3) h rfl K.u_S_uint8 rfl 6 rfl | exact r_load h rfl K.u_S_uint8 rfl 0 rfl rfl | exact r_load h rfl K.u_S_uint8 rfl 1 rfl rfl | exact r_load h rfl K.u_S_uint8 rfl 2 rfl rfl | exact r_load h rfl K.u_S_uint8 rfl 3 rfl rfl | exact r_load h rfl K.u_S_uint8 rfl 4 rfl rfl | exact r_load h rfl K.u_S_uint8 rfl 5 rfl rfl | exact r_load1 h rfl K.u_S_uint8 rfl (by assumption)) rfl ?_
        clear h a w; intro a w h
        refine wvG h (by first | exact .t rfl | exact .f rfl | exact .gt rfl | exact .gf rfl) (fun hg => by (try simp only [↓gval_on hg, ↓gval_and hg] at h); (have hg2 := hg; (try simp only [Bool.and_eq_true, Bool.or_eq_true, Bool.not_eq_true', decide_eq_true_eq, decide_eq_false_iff_not] at hg2)); first | exact r_lenB h rfl K.u_S_uint8 (by first | exact ViewsB.own 0 rfl | exact ViewsB.own 1 rfl | exact ViewsB.own 2 rfl | exact ViewsB.own 3 rfl | exact ViewsB.own 4 rfl | exact ViewsB.own 5 rfl | assumption | exact ViewsB.nil _ | exact ViewsB.arr 0 rfl (by first | assumption | rfl | (simp; done)) (Nat.le_refl _) (by simp [maxLen]) | exact ViewsB.arr 1 rfl (by first | assumption | rfl | (simp; done)) (Nat.le_refl _) (by simp [maxLen]) | exact ViewsB.arr 2 rfl (by first | assumption | rfl | (simp; done)) (Nat.le_refl _) (by simp [maxLen]) | exact ViewsB.arr 3 rfl (by first | assumption | rfl | (simp; done)) (Nat.le_refl _) (by simp [maxLen]) | exact ViewsB.arr 4 rfl (by first | assumption | rfl | (simp; done)) (Nat.le_refl _) (by simp [maxLen]) | exact ViewsB.of_drop 1 (by assumption) | exact ViewsB.of_drop 2 (by assumption) | exact ViewsB.of_drop 3 (by assumption) | exact ViewsB.of_drop 4 (by assumption) | exact ViewsB.of_drop 5 (by assumption) | exact ViewsB.of_drop 6 (by assumption) | exact ViewsB.of_drop 7 (by assumption) | exact ViewsB.of_drop 8 (by assumption) | exact ViewsB.of_drop 9 (by assumption) | exact ViewsB.of_drop 10 (by assumption) | exact ViewsB.of_drop 11 (by assumption) | exact ViewsB.of_drop 12 (by assumption) | exact ViewsB.sub (by first | exact ViewsB.own 0 rfl | exact ViewsB.own 1 rfl | exact ViewsB.own 2 rfl | exact ViewsB.own 3 rfl | exact ViewsB.own 4 rfl | exact ViewsB.own 5 rfl | assumption | exact ViewsB.nil _ | exact ViewsB.arr 0 rfl (by first | assumption | rfl | (simp; done)) (Nat.le_refl _) (by simp [maxLen]) | exact ViewsB.arr 1 rfl (by first | assumption | rfl | (simp; done)) (Nat.le_refl _) (by simp [maxLen]) | exact ViewsB.arr 2 rfl (by first | assumption | rfl | (simp; done)) (Nat.le_refl _) (by simp [maxLen]) | exact ViewsB.arr 3 rfl (by first | assumption | rfl | (simp; done)) (Nat.le_refl _) (by simp [maxLen]) | exact ViewsB.arr 4 rfl (by first | assumption | rfl | (simp; done)) (Nat.le_refl _) (by simp [maxLen]) | exact ViewsB.of_drop 1 (by assumption) | exact ViewsB.of_drop 2 (by assumption) | exact ViewsB.of_drop 3 (by assumption) | exact ViewsB.of_drop 4 (by assumption) | exact ViewsB.of_drop 5 (by assumption) | exact ViewsB.of_drop 6 (by assumption) | exact ViewsB.of_drop 7 (by assumption) | exact ViewsB.of_drop 8 (by assumption) | exact ViewsB.of_drop 9 (by assumption) | exact ViewsB.of_drop 10 (by assumption) | exact ViewsB.of_drop 11 (by assumption) | exact ViewsB.of_drop 12 (by assumption)) (by omega) (by first | omega | (simp; done) | (simp; omega)))) rfl ?_
        clear h a w; intro a w h
        refine wvG h (by first | exact .t rfl | exact .f rfl | exact .gt rfl | exact .gf rfl) (fun hg => by (try simp only [↓gval_on hg, ↓gval_and hg] at h); (have hg2 := hg; (try simp only [Bool.and_eq_true, Bool.or_eq_true, Bool.not_eq_true', decide_eq_true_eq, decide_eq_false_iff_not] at hg2)); first | exact r_bin h rfl rfl (B.gtr_int)) rfl ?_
        clear h a w; intro a w h
        first
                | (refine wv h (r_pickA h rfl rfl rfl) rfl ?_)
                | (refine wv h (r_pickO h rfl rfl rfl) rfl ?_)
                | (refine wv h (r_pick_true h rfl rfl) rfl ?_)
                | (refine wv h (r_pick_false h rfl rfl) rfl ?_)
                | (refine wv h (r_pick h rfl rfl rfl) rfl ?_)
        clear h a w; intro a w h
        refine wnil (c_then ?_)
        first
         | refine c_condD h rfl (fun ht5 => ?_) (fun ht5 => ?_)
         | refine c_condP h rfl (by first | (simp only [Bool.and_eq_true, Bool.or_eq_true, Bool.not_eq_true', decide_eq_true_eq, decide_eq_false_iff_not, ne_eq, Bool.not_eq_eq_eq_not, Bool.not_true, beq_iff_eq, bne_iff_ne]; exact Iff.rfl) | exact Iff.rfl) (fun ht5 => ?_) (fun ht5 => ?_)
        ·
         as_aux_lemma =>
          refine c_seq (c_region ?_)
          refine wv h (r_assign h rfl) rfl ?_
          clear h a w; intro a w h
          refine wnil (c_then ?_)
          refine c_ret ?_
          exact ret1 h rfl rfl ⟨(), rfl, Sat.dropApp2 (h.2.drop 3), trivial⟩
        ·
         have hp64 : A.p.length ≤ 64 := by omega
         have hok := pagesJ_ok A.at_ A.p hp64 m hm12
         refine c_skip ?_
         refine c_then ?_
         refine c_seq (c_region ?_)
         first
                  | (refine wv h (r_ldA h rfl K.u_interleaflaw05_Act rfl K.sz_interleaflaw05_Act 0 rfl (by first | exact Row.len _ | rfl | assumption | (simp; done) | (simp; omega) | omega)) rfl ?_)
                  | (refine wv h (r_ldA h rfl K.u_interleaflaw05_Act rfl K.sz_interleaflaw05_Act 1 rfl (by first | exact Row.len _ | rfl | assumption | (simp; done) | (simp; omega) | omega)) rfl ?_)
                  | (refine wv h (r_ldA h rfl K.u_interleaflaw05_Act rfl K.sz_interleaflaw05_Act 2 rfl (by first | exact Row.len _ | rfl | assumption | (simp; done) | (simp; omega) | omega)) rfl ?_)
                  | (refine wv h (r_ldA h rfl K.u_interleaflaw05_Act rfl K.sz_interleaflaw05_Act 3 rfl (by first | exact Row.len _ | rfl | assumption | (simp; done) | (simp; omega) | omega)) rfl ?_)
                  | (refine wv h (r_ldA h rfl K.u_interleaflaw05_Act rfl K.sz_interleaflaw05_Act 4 rfl (by first | exact Row.len _ | rfl | assumption | (simp; done) | (simp; omega) | omega)) rfl ?_)
                  | (refine wv h (r_ldA h rfl K.u_interleaflaw05_Act rfl K.sz_interleaflaw05_Act 5 rfl (by first | exact Row.len _ | rfl | assumption | (simp; done) | (simp; omega) | omega)) rfl ?_)
                  | (refine wv h (r_loadCA h rfl K.u_interleaflaw05_Act rfl K.sz_interleaflaw05_Act (by assumption) (by first | rfl | assumption | (simp; done) | (simp; omega) | omega)) rfl ?_)
         clear h a w; intro a w h
         refine wl rfl (op_call h rfl K.go_law05_pages (law05_pages s _ A _ (by exact ((hA1G.cons _).cons _).cons _) (by exact ((hA2G.cons _).cons _).cons _) hp64 h.2) rfl ?_)
         clear h a w; intro y a w hy h
         (try simp only [List.set_cons_zero, List.set_cons_succ] at h)
         obtain ⟨vl, pl, G2⟩ := y
         obtain ⟨hpg, hpv⟩ := hy
         dsimp only at hpg hpv h
         replace h := h.mem Sat.pull3
         have hpR := hpv.app (G1 ++ F)
         have hok2 : Jn.okP m.length (pgs pl) := by rw [hpg]; exact hok
         have hacD := hJ.acts
         refine wv h (r_assign h rfl) rfl ?_
         clear h a w; intro a w h
         refine wnil (c_then ?_)
         refine c_meet h (X := Int) (fun _ => [(0, av), (1, bv again), (5, dp b9), (6, dp bj1), (8, vm1), (10, .int .i64 (i : Int)), (11, .pointer (some ⟨b11, 0, none⟩)), (12, vl)])
           (fun c => Blk b11 (.cells ⟨cellsJA A⟩ t_interleaflaw05_Act) :: JnI bj1 b9 (D.arm c) n :: OwnL id vm1 M1 :: OwnM 2 cellsPg vl pl :: (G2 ++ (G1 ++ F))) (fun c => -1 ≤ c ∧ c ≤ 300) ?_ ?_
         ·
          refine c_seq (c_region ?_)
          refine wv h (r_fieldAddr h 2 rfl K.u_interleaflaw05_Act rfl K.sz_uint8 rfl rfl) rfl ?_
          clear h a w; intro a w h
          first
                    | (refine wv h (r_ldN h rfl K.u_uint8 rfl 0 rfl rfl) rfl ?_)
                    | (refine wv h (r_ldN h rfl K.u_uint8 rfl 1 rfl rfl) rfl ?_)
                    | (refine wv h (r_ldN h rfl K.u_uint8 rfl 2 rfl rfl) rfl ?_)
                    | (refine wv h (r_ldN h rfl K.u_uint8 rfl 3 rfl rfl) rfl ?_)
                    | (refine wv h (r_ldN h rfl K.u_uint8 rfl 4 rfl rfl) rfl ?_)
                    | (refine wv h (r_ldN h rfl K.u_uint8 rfl 5 rfl rfl) rfl ?_)
                    | (refine wv h (r_ldN h rfl K.u_uint8 rfl 6 rfl rfl) rfl ?_)
                    | (refine wv h (r_ldC (o := 2) h rfl K.u_uint8 rfl 0 rfl) rfl ?_)
                    | (refine wv h (r_ldC (o := 2) h rfl K.u_uint8 rfl 1 rfl) rfl ?_)
                    | (refine wv h (r_ldC (o := 2) h rfl K.u_uint8 rfl 2 rfl) rfl ?_)
                    | (refine wv h (r_ldC (o := 2) h rfl K.u_uint8 rfl 3 rfl) rfl ?_)
                    | (refine wv h (r_ldC (o := 2) h rfl K.u_uint8 rfl 4 rfl) rfl ?_)
                    | (refine wv h (r_ldC (o := 2) h rfl K.u_uint8 rfl 5 rfl) rfl ?_)
                    | (refine wv h (r_ldC (o := 2) h rfl K.u_uint8 rfl 6 rfl) rfl ?_)
                    | (refine wv h (r_load h rfl K.u_uint8 rfl 0 rfl rfl) rfl ?_)
                    | (refine wv h (r_load h rfl K.u_uint8 rfl 1 rfl rfl) rfl ?_)
                    | (refine wv h (r_load h rfl K.u_uint8 rfl 2 rfl rfl) rfl ?_)
                    | (refine wv h (r_load h rfl K.u_uint8 rfl 3 rfl rfl) rfl ?_)
                    | (refine wv h (r_load h rfl K.u_uint8 rfl 4 rfl rfl) rfl ?_)
                    | (refine wv h (r_load h rfl K.u_uint8 rfl 5 rfl rfl) rfl ?_)
                    | (refine wv h (r_load1 h rfl K.u_uint8 rfl (by assumption)) rfl ?_)
          clear h a w; intro a w h
          refine wv h (r_bin h rfl rfl (B.lss_u8 (y := 100))) rfl ?_
          clear h a w; intro a w h
          refine wnil (c_then ?_)
          first
           | refine c_condD h rfl (fun ht6 => ?_) (fun ht6 => ?_)
           | refine c_condP h rfl (by first | (simp only [Bool.and_eq_true, Bool.or_eq_true, Bool.not_eq_true', decide_eq_true_eq, decide_eq_false_iff_not, ne_eq, Bool.not_eq_eq_eq_not, Bool.not_true, beq_iff_eq, bne_iff_ne]; exact Iff.rfl) | exact Iff.rfl) (fun ht6 => ?_) (fun ht6 => ?_)
          ·
           as_aux_lemma =>
            refine c_region ?_
            refine wv h (r_move h rfl) rfl ?_
            clear h a w; intro a w h
            refine wv h (r_fieldAddr h 2 rfl K.u_interleaflaw05_Act rfl K.sz_uint8 rfl rfl) rfl ?_
            clear h a w; intro a w h
            first
                        | (refine wv h (r_ldN h rfl K.u_uint8 rfl 0 rfl rfl) rfl ?_)
                        | (refine wv h (r_ldN h rfl K.u_uint8 rfl 1 rfl rfl) rfl ?_)
                        | (refine wv h (r_ldN h rfl K.u_uint8 rfl 2 rfl rfl) rfl ?_)
                        | (refine wv h (r_ldN h rfl K.u_uint8 rfl 3 rfl rfl) rfl ?_)
                        | (refine wv h (r_ldN h rfl K.u_uint8 rfl 4 rfl rfl) rfl ?_)
                        | (refine wv h (r_ldN h rfl K.u_uint8 rfl 5 rfl rfl) rfl ?_)
                        | (refine wv h (r_ldN h rfl K.u_uint8 rfl 6 rfl rfl) rfl ?_)
                        | (refine wv h (r_ldC (o := 2) h rfl K.u_uint8 rfl 0 rfl) rfl ?_)
                        | (refine wv h (r_ldC (o := 2) h rfl K.u_uint8 rfl 1 rfl) rfl ?_)
                        | (refine wv h (r_ldC (o := 2) h rfl K.u_uint8 rfl 2 rfl) rfl ?_)
                        | (refine wv h (r_ldC (o := 2) h rfl K.u_uint8 rfl 3 rfl) rfl ?_)
                        | (refine wv h (r_ldC (o := 2) h rfl K.u_uint8 rfl 4 rfl) rfl ?_)
                        | (refine wv h (r_ldC (o := 2) h rfl K.u_uint8 rfl 5 rfl) rfl ?_)
                        | (refine wv h (r_ldC (o := 2) h rfl K.u_uint8 rfl 6 rfl) rfl ?_)
                        | (refine wv h (r_load h rfl K.u_uint8 rfl 0 rfl rfl) rfl ?_)
                        | (refine wv h (r_load h rfl K.u_uint8 rfl 1 rfl rfl) rfl ?_)
                        | (refine wv h (r_load h rfl K.u_uint8 rfl 2 rfl rfl) rfl ?_)
                        | (refine wv h (r_load h rfl K.u_uint8 rfl 3 rfl rfl) rfl ?_)
                        | (refine wv h (r_load h rfl K.u_uint8 rfl 4 rfl rfl) rfl ?_)
                        | (refine wv h (r_load h rfl K.u_uint8 rfl 5 rfl rfl) rfl ?_)
                        | (refine wv h (r_load1 h rfl K.u_uint8 rfl (by assumption)) rfl ?_)
            clear h a w; intro a w h
            refine wv h (r_bin h rfl rfl (B.rem_u8 (y := 40) (by decide))) rfl ?_
            clear h a w; intro a w h
            refine wv h (r_conv h rfl K.u_uint8 K.u_int (C.i64_u8) ) rfl ?_
            clear h a w; intro a w h
            replace h := h.mem (fun z => JnI_open (z.front 1 rfl))
            refine wl rfl (op_call h rfl K.go_disk_Disk_Arm (disk_Arm s _ b9 D _ _ 1 rfl h.2) rfl ?_)
            clear h a w; intro x a w hx h
            (try simp only [List.set_cons_zero, List.set_cons_succ] at h)
            replace h := h.mem (fun z => (JnI_shut z).front 1 rfl)
            refine wnil ?_
            exact ⟨((A.stop % 40).toNat : Int), h.keep [0, 1, 5, 6, 8, 10, 11, 12], by omega, by have := (A.stop % 40).toNat_lt; omega⟩
          ·
           refine c_skip ?_
           refine ⟨-1, ?_, by omega, by omega⟩
           rw [Jn.arm_same hJ.left]
           exact h.keep [0, 1, 5, 6, 8, 10, 11, 12]
         ·
          clear h a w; intro z a w hz h
          obtain ⟨hz1, hz2⟩ := hz
          have hao := Dk.arm_ok hJ.ok (n := z) (by omega)
          have hao1 := hao.1
          have hao2 := hao.2
          obtain ⟨p1, p2, p3⟩ := Jn.plays_write hJ z (by omega) hok2 (by omega) (by omega)
          refine c_seq (c_region ?_)
          refine wv h (r_move h rfl) rfl ?_
          clear h a w; intro a w h
          refine wv h (r_move h rfl) rfl ?_
          clear h a w; intro a w h
          refine wl rfl (op_call h rfl K.go_journal_Journal_Write (jn_Write s _ bj1 b9 n (D.arm z) vl pl _ 1 rfl hao1 (by omega) (by omega) (by exact Views.own 2 rfl) (by exact ((hpR.cons _).cons _).cons _) h.2) rfl ?_)
          clear h a w; intro x a w hx h
          (try simp only [List.set_cons_zero, List.set_cons_succ] at h)
          obtain ⟨q, hq⟩ : ∃ q, q = Jn.jW (D.arm z) n (pgs pl) := ⟨_, rfl⟩
          rw [← hq] at h p1 p2 p3
          obtain ⟨D2, n2, e2⟩ := q
          dsimp only at h p1 p2 p3
          refine wv h (r_assign h rfl) rfl ?_
          clear h a w; intro a w h
          refine wnil (c_then ?_)
          refine c_seq ?_
          refine c_seq (c_region ?_)
          refine wv h (r_move h rfl) rfl ?_
          clear h a w; intro a w h
          refine wv h (r_bin h rfl rfl (B.eql_int)) rfl ?_
          clear h a w; intro a w h
          refine wnil (c_then ?_)
          first
           | refine c_condD h rfl (fun ht7 => ?_) (fun ht7 => ?_)
           | refine c_condP h rfl (by first | (simp only [Bool.and_eq_true, Bool.or_eq_true, Bool.not_eq_true', decide_eq_true_eq, decide_eq_false_iff_not, ne_eq, Bool.not_eq_eq_eq_not, Bool.not_true, beq_iff_eq, bne_iff_ne]; exact Iff.rfl) | exact Iff.rfl) (fun ht7 => ?_) (fun ht7 => ?_)
          ·
           have p4 : n2 ≤ n + 1 ∧ 0 < n2 ∧ Jn.Rest D2 (Jn.put m (pgs pl)) n2 := by
             rcases p3 with ⟨_, g⟩ | ⟨g, _⟩
             · exact g
             · omega
           have hJ2 : Jn.JS (D2.arm (-1)) (Jn.put m (pgs pl)) n2 (26 + 128 * ((i + 1 : Nat) : Int)) := by
             have := Dk.arm_ok p1 (n := -1) (by decide)
             exact ⟨Jn.arm_rest p4.2.2 _, this.1, rfl, by have := this.2; omega, p4.2.1⟩
           as_aux_lemma =>
            refine c_seq (c_region ?_)
            refine wv h (r_move h rfl) rfl ?_
            clear h a w; intro a w h
            refine wv h (r_move h rfl) rfl ?_
            clear h a w; intro a w h
            refine wl rfl (op_call h rfl K.go_law05_put (law05_put s _ vm1 vl M1 m pl (Blk b11 (.cells ⟨cellsJA A⟩ t_interleaflaw05_Act) :: JnI bj1 b9 D2 n2 :: OwnL id vm1 M1 :: OwnM 2 cellsPg vl pl :: G2) (G1 ++ F) _ rfl hRV (by exact Views.own 2 rfl) (by exact Views.own 3 rfl) (by exact (((hpR.cons _).cons _).cons _).cons _) hok2 (by omega) h.2) rfl ?_)
            clear h a w; intro y a w hy h
            (try simp only [List.set_cons_zero, List.set_cons_succ] at h)
            obtain ⟨v80, M80, G3⟩ := y
            dsimp only at hy h
            replace h := h.mem (fun z => Sat.dropIn (J := OwnM 2 cellsPg vl pl :: G2) (((Sat.pull3 z).rid 2).rid 0))
            refine wv h (r_assign h rfl) rfl ?_
            clear h a w; intro a w h
            refine wnil (c_then ?_)
            refine c_seq (c_region ?_)
            refine wv h (r_move h rfl) rfl ?_
            clear h a w; intro a w h
            replace h := h.mem JnI_open
            refine wl rfl (op_call h rfl K.go_disk_Disk_Arm (disk_Arm s _ b9 D2 (-1) _ 1 rfl h.2) rfl ?_)
            clear h a w; intro x a w hx h
            (try simp only [List.set_cons_zero, List.set_cons_succ] at h)
            replace h := h.mem JnI_shut
            refine wnil (c_then ?_)
            refine c_seq ?_
            refine c_seq (c_region ?_)
            refine wv h (r_move h rfl) rfl ?_
            clear h a w; intro a w h
            refine wv h (r_move h rfl) rfl ?_
            clear h a w; intro a w h
            refine wl rfl (op_call h rfl K.go_law05_same (law05_same s _ bj1 b9 n2 (D2.arm (-1)) v80 M80 (Jn.put m (pgs pl)) (Jn.put m (pgs pl)) _ hJ2.ok hJ2.rest (by exact Views.own 0 rfl) (by exact hy.cons _) rfl h.2) rfl ?_)
            clear h a w; intro r a w hr h
            (try simp only [List.set_cons_zero, List.set_cons_succ] at h)
            obtain rfl : r = true := hr.2 rfl
            refine wv h (r_not h rfl) rfl ?_
            clear h a w; intro a w h
            refine wnil (c_then ?_)
            first
             | refine c_condD h rfl (fun ht8 => ?_) (fun ht8 => ?_)
             | refine c_condP h rfl (by first | (simp only [Bool.and_eq_true, Bool.or_eq_true, Bool.not_eq_true', decide_eq_true_eq, decide_eq_false_iff_not, ne_eq, Bool.not_eq_eq_eq_not, Bool.not_true, beq_iff_eq, bne_iff_ne]; exact Iff.rfl) | exact Iff.rfl) (fun ht8 => ?_) (fun ht8 => ?_)
            ·
             exfalso
             simp at ht8
            ·
             refine c_skip ?_
             refine c_then ?_
             refine c_exit ?_
             refine e_then ?_
             refine e_here ?_
             refine c_then ?_
             refine c_region ?_
             refine wv h (r_move h rfl) rfl ?_
             clear h a w; intro a w h
             refine wv h (r_bin h rfl rfl (B.add_i64 (by omega) (by omega))) rfl ?_
             clear h a w; intro a w h
             refine wv h (r_assign h rfl) rfl ?_
             clear h a w; intro a w h
             refine wnil ?_
             refine ⟨(i + 1, ⟨bj1, D2.arm (-1), n2, v80, M80, Jn.put m (pgs pl), G3 ++ G1⟩), ?_, ⟨by show i + 1 ≤ _; omega, hJ2, by dsimp only; omega, by simp [hm12], by dsimp only; rw [List.append_assoc]; exact hy⟩, by show acts.length - (i + 1) < acts.length - i; omega⟩
             dsimp only
             rw [List.append_assoc]
             exact h.keep [0, 1, 5, 6, 8, 10]
          ·
           have p9 : e2 = 9 ∧ ∀ k, ∃ m', (m' = m ∨ m' = Jn.put m (pgs pl)) ∧ Jn.JM (D2.crash k) m' (n + 1) (26 + 128 * (i : Int) + 76) := by
             rcases p3 with ⟨g, _⟩ | g
             · exact absurd g ht7
             · exact g
           obtain ⟨he2, p9⟩ := p9
           obtain ⟨m', hm', J3⟩ := p9 A.mask
           refine c_skip ?_
           refine c_then ?_
           refine c_seq ?_
           refine c_seq (c_region ?_)
           refine wv h (r_move h rfl) rfl ?_
           clear h a w; intro a w h
           refine wv h (r_bin h rfl rfl (B.neq_int)) rfl ?_
           clear h a w; intro a w h
           refine wnil (c_then ?_)
           first
            | refine c_condD h rfl (fun ht9 => ?_) (fun ht9 => ?_)
            | refine c_condP h rfl (by first | (simp only [Bool.and_eq_true, Bool.or_eq_true, Bool.not_eq_true', decide_eq_true_eq, decide_eq_false_iff_not, ne_eq, Bool.not_eq_eq_eq_not, Bool.not_true, beq_iff_eq, bne_iff_ne]; exact Iff.rfl) | exact Iff.rfl) (fun ht9 => ?_) (fun ht9 => ?_)
           ·
            exfalso
            exact ht9 he2
           ·
            refine c_skip ?_
            refine c_then ?_
            refine c_seq (c_region ?_)
            refine wv h (r_move h rfl) rfl ?_
            clear h a w; intro a w h
            refine wv h (r_fieldAddr h 3 rfl K.u_interleaflaw05_Act rfl K.sz_S_uint8 rfl rfl) rfl ?_
            clear h a w; intro a w h
            first
                        | (refine wv h (r_ldN h rfl K.u_S_uint8 rfl 0 rfl rfl) rfl ?_)
                        | (refine wv h (r_ldN h rfl K.u_S_uint8 rfl 1 rfl rfl) rfl ?_)
                        | (refine wv h (r_ldN h rfl K.u_S_uint8 rfl 2 rfl rfl) rfl ?_)
                        | (refine wv h (r_ldN h rfl K.u_S_uint8 rfl 3 rfl rfl) rfl ?_)
                        | (refine wv h (r_ldN h rfl K.u_S_uint8 rfl 4 rfl rfl) rfl ?_)
                        | (refine wv h (r_ldN h rfl K.u_S_uint8 rfl 5 rfl rfl) rfl ?_)
                        | (refine wv h (r_ldN h rfl K.u_S_uint8 rfl 6 rfl rfl) rfl ?_)
                        | (refine wv h (r_ldC (o := 3) h rfl K.u_S_uint8 rfl 0 rfl) rfl ?_)
                        | (refine wv h (r_ldC (o := 3) h rfl K.u_S_uint8 rfl 1 rfl) rfl ?_)
                        | (refine wv h (r_ldC (o := 3) h rfl K.u_S_uint8 rfl 2 rfl) rfl ?_)
                        | (refine wv h (r_ldC (o := 3) h rfl K.u_S_uint8 rfl 3 rfl) rfl ?_)
                        | (refine wv h (r_ldC (o := 3) h rfl K.u_S_uint8 rfl 4 rfl) rfl ?_)
                        | (refine wv h (r_ldC (o := 3) h rfl K.u_S_uint8 rfl 5 rfl) rfl ?_)
                        | (refine wv h (r_ldC (o := 3) h rfl K.u_S_uint8 rfl 6 rfl) rfl ?_)
                        | (refine wv h (r_load h rfl K.u_S_uint8 rfl 0 rfl rfl) rfl ?_)
                        | (refine wv h (r_load h rfl K.u_S_uint8 rfl 1 rfl rfl) rfl ?_)
                        | (refine wv h (r_load h rfl K.u_S_uint8 rfl 2 rfl rfl) rfl ?_)
                        | (refine wv h (r_load h rfl K.u_S_uint8 rfl 3 rfl rfl) rfl ?_)
                        | (refine wv h (r_load h rfl K.u_S_uint8 rfl 4 rfl rfl) rfl ?_)
                        | (refine wv h (r_load h rfl K.u_S_uint8 rfl 5 rfl rfl) rfl ?_)
                        | (refine wv h (r_load1 h rfl K.u_S_uint8 rfl (by assumption)) rfl ?_)
            clear h a w; intro a w h
            replace h := h.mem (fun z => JnI_open (z.front 1 rfl))
            refine wl rfl (op_call h rfl K.go_disk_Disk_Crash (disk_Crash s _ b9 D2 _ A.mask _ 1 rfl p1 (by exact ((((hA3G.prep G2).cons _).cons _).cons _).cons _) h.2) rfl ?_)
            clear h a w; intro x a w hx h
            (try simp only [List.set_cons_zero, List.set_cons_succ] at h)
            generalize D2.crash A.mask = D3 at *
            replace h := h.mem (fun z => z.rid 0)
            obtain ⟨c2, hc2⟩ : ∃ c2, c2 = (again % 14).toNat := ⟨_, rfl⟩
            have hc14 : c2 < 14 := by rw [hc2, UInt8.toNat_mod]; exact Nat.mod_lt _ (by decide)
            have hk3 := Dk.arm_ok J3.ok (n := (c2 : Int)) (by omega)
            have hk31 := hk3.1
            have hk32 := hk3.2
            have hac3 := J3.acts
            have hml' : m'.length = 12 := by rcases hm' with e | e <;> rw [e] <;> simp [hm12]
            have hl3 := J3.len
            obtain ⟨a1, a2, a3⟩ := Jn.arm_open J3 (c2 : Int) (by omega) (by omega)
            refine wnil (c_then ?_)
            refine c_seq (c_region ?_)
            refine wv h (r_move h rfl) rfl ?_
            clear h a w; intro a w h
            refine wv h (r_move h rfl) rfl ?_
            clear h a w; intro a w h
            refine wv h (r_bin h rfl rfl (B.rem_u8 (y := 14) (by decide))) rfl ?_
            clear h a w; intro a w h
            refine wv h (r_conv h rfl K.u_uint8 K.u_int (C.i64_u8) ) rfl ?_
            clear h a w; intro a w h
            rw [← hc2] at h
            refine wl rfl (op_call h rfl K.go_disk_Disk_Arm (disk_Arm s _ b9 D3 _ _ 0 rfl h.2) rfl ?_)
            clear h a w; intro x a w hx h
            (try simp only [List.set_cons_zero, List.set_cons_succ] at h)
            refine wnil (c_then ?_)
            refine c_meet h (X := Dk) (fun _ => [(0, av), (1, bv again), (5, dp b9), (8, vm1), (10, .int .i64 (i : Int)), (12, vl)]) (fun D => DiskI b9 D :: OwnL id vm1 M1 :: OwnM 2 cellsPg vl pl :: (G2 ++ (G1 ++ F))) (fun D => Jn.Mid D m' (n + 1) ∧ D.ok ∧ D.acts ≤ 26 + 128 * (i : Int) + 102) ?_ ?_
            ·
             refine c_seq (c_region ?_)
             refine wv h (r_move h rfl) rfl ?_
             clear h a w; intro a w h
             refine wl rfl (op_call h rfl K.go_journal_Open (jn_Open s _ b9 (D3.arm (c2 : Int)) _ hk31 (by exact J3.mid.off) (by show 49 < D3.safe.length; omega) (by omega) h.2) rfl ?_)
             clear h a w; intro bk a w hx h
             (try simp only [List.set_cons_zero, List.set_cons_succ] at h)
             generalize Jn.openN (D3.arm (c2 : Int)) = q2 at *
             obtain ⟨D4, e4⟩ := q2
             dsimp only at h a1 a2 a3
             refine wv h (r_move h rfl) rfl ?_
             clear h a w; intro a w h
             refine wv h (r_extractN h rfl rfl) rfl ?_
             clear h a w; intro a w h
             refine wv h (r_extractN h rfl rfl) rfl ?_
             clear h a w; intro a w h
             refine wv h (r_assign h rfl) rfl ?_
             clear h a w; intro a w h
             refine wv h (r_assign h rfl) rfl ?_
             clear h a w; intro a w h
             refine wnil (c_then ?_)
             refine c_seq (c_region ?_)
             refine wv h (r_move h rfl) rfl ?_
             clear h a w; intro a w h
             refine wv h (r_bin h rfl rfl (B.neq_int)) rfl ?_
             clear h a w; intro a w h
             refine wnil (c_then ?_)
             first
              | refine c_condD h rfl (fun ht10 => ?_) (fun ht10 => ?_)
              | refine c_condP h rfl (by first | (simp only [Bool.and_eq_true, Bool.or_eq_true, Bool.not_eq_true', decide_eq_true_eq, decide_eq_false_iff_not, ne_eq, Bool.not_eq_eq_eq_not, Bool.not_true, beq_iff_eq, bne_iff_ne]; exact Iff.rfl) | exact Iff.rfl) (fun ht10 => ?_) (fun ht10 => ?_)
             ·
              as_aux_lemma =>
               refine c_region ?_
               refine wv h (r_move h rfl) rfl ?_
               clear h a w; intro a w h
               refine wv h (r_fieldAddr h 1 rfl K.u_interleaflaw05_Act rfl K.sz_S_uint8 rfl rfl) rfl ?_
               clear h a w; intro a w h
               first
                              | (refine wv h (r_ldN h rfl K.u_S_uint8 rfl 0 rfl rfl) rfl ?_)
                              | (refine wv h (r_ldN h rfl K.u_S_uint8 rfl 1 rfl rfl) rfl ?_)
                              | (refine wv h (r_ldN h rfl K.u_S_uint8 rfl 2 rfl rfl) rfl ?_)
                              | (refine wv h (r_ldN h rfl K.u_S_uint8 rfl 3 rfl rfl) rfl ?_)
                              | (refine wv h (r_ldN h rfl K.u_S_uint8 rfl 4 rfl rfl) rfl ?_)
                              | (refine wv h (r_ldN h rfl K.u_S_uint8 rfl 5 rfl rfl) rfl ?_)
                              | (refine wv h (r_ldN h rfl K.u_S_uint8 rfl 6 rfl rfl) rfl ?_)
                              | (refine wv h (r_ldC (o := 1) h rfl K.u_S_uint8 rfl 0 rfl) rfl ?_)
                              | (refine wv h (r_ldC (o := 1) h rfl K.u_S_uint8 rfl 1 rfl) rfl ?_)
                              | (refine wv h (r_ldC (o := 1) h rfl K.u_S_uint8 rfl 2 rfl) rfl ?_)
                              | (refine wv h (r_ldC (o := 1) h rfl K.u_S_uint8 rfl 3 rfl) rfl ?_)
                              | (refine wv h (r_ldC (o := 1) h rfl K.u_S_uint8 rfl 4 rfl) rfl ?_)
                              | (refine wv h (r_ldC (o := 1) h rfl K.u_S_uint8 rfl 5 rfl) rfl ?_)
                              | (refine wv h (r_ldC (o := 1) h rfl K.u_S_uint8 rfl 6 rfl) rfl ?_)
                              | (refine wv h (r_load h rfl K.u_S_uint8 rfl 0 rfl rfl) rfl ?_)
                              | (refine wv h (r_load h rfl K.u_S_uint8 rfl 1 rfl rfl) rfl ?_)
                              | (refine wv h (r_load h rfl K.u_S_uint8 rfl 2 rfl rfl) rfl ?_)
                              | (refine wv h (r_load h rfl K.u_S_uint8 rfl 3 rfl rfl) rfl ?_)
                              | (refine wv h (r_load h rfl K.u_S_uint8 rfl 4 rfl rfl) rfl ?_)
                              | (refine wv h (r_load h rfl K.u_S_uint8 rfl 5 rfl rfl) rfl ?_)
                              | (refine wv h (r_load1 h rfl K.u_S_uint8 rfl (by assumption)) rfl ?_)
               clear h a w; intro a w h
               replace h := h.mem JnI_open
               refine wl rfl (op_call h rfl K.go_disk_Disk_Crash (disk_Crash s _ b9 D4 _ A.p _ 1 rfl a1 (by exact ((((hA2G.prep G2).cons _).cons _).cons _).cons _) h.2) rfl ?_)
               clear h a w; intro x a w hx h
               (try simp only [List.set_cons_zero, List.set_cons_succ] at h)
               refine wnil ?_
               have hcr := Dk.crash_ok a1 A.p
               refine ⟨D4.crash A.p, (h.mem (fun z => (z.rid 0).rid 1)).keep [0, 1, 5, 8, 10, 12], ?_, hcr.1, by have := hcr.2; omega⟩
               rcases a3 with ⟨g, _⟩ | ⟨_, g⟩
               · exact absurd g ht10
               · exact g _
             ·
              refine c_skip ?_
              replace h := h.mem JnI_open
              refine ⟨D4, (h.mem (fun z => (z.rid 0).rid 1)).keep [0, 1, 5, 8, 10, 12], ?_, a1, by omega⟩
              rcases a3 with ⟨_, g⟩ | ⟨g, _⟩
              · exact g
              · exact absurd (by simpa using ht10) g
            ·
             clear h a w; intro z a w hz h
             obtain ⟨z1, z2, z3⟩ := hz
             have hk5 := Dk.arm_ok z2 (n := -1) (by decide)
             have J5 : Jn.JM (z.arm (-1)) m' (n + 1) (26 + 128 * (i : Int) + 102) := ⟨Jn.arm_mid z1 _, hk5.1, rfl, by have := hk5.2; omega⟩
             obtain ⟨o6, o7, o8⟩ := Jn.js_open J5 (by omega)
             have hl5 := J5.len
             have hac5 := J5.acts
             refine c_seq (c_region ?_)
             refine wv h (r_move h rfl) rfl ?_
             clear h a w; intro a w h
             refine wl rfl (op_call h rfl K.go_disk_Disk_Arm (disk_Arm s _ b9 z (-1) _ 0 rfl h.2) rfl ?_)
             clear h a w; intro x a w hx h
             (try simp only [List.set_cons_zero, List.set_cons_succ] at h)
             generalize z.arm (-1) = D5 at *
             refine wnil (c_then ?_)
             refine c_seq (c_region ?_)
             refine wv h (r_move h rfl) rfl ?_
             clear h a w; intro a w h
             refine wl rfl (op_call h rfl K.go_journal_Open (jn_Open s _ b9 D5 _ J5.ok (by exact J5.mid.off) (by omega) (by omega) h.2) rfl ?_)
             clear h a w; intro bk2 a w hx h
             (try simp only [List.set_cons_zero, List.set_cons_succ] at h)
             rw [if_pos o6, o6] at h
             generalize (Jn.openN D5).1 = D6 at *
             generalize Jn.nextN D5.read 49 = n6 at *
             have hJ6 := o7.mono (A' := 26 + 128 * ((i + 1 : Nat) : Int)) (by omega)
             refine wv h (r_move h rfl) rfl ?_
             clear h a w; intro a w h
             refine wv h (r_extractN h rfl rfl) rfl ?_
             clear h a w; intro a w h
             refine wv h (r_extractN h rfl rfl) rfl ?_
             clear h a w; intro a w h
             refine wv h (r_assign h rfl) rfl ?_
             clear h a w; intro a w h
             refine wv h (r_assign h rfl) rfl ?_
             clear h a w; intro a w h
             refine wnil (c_then ?_)
             refine c_seq ?_
             refine c_seq (c_region ?_)
             refine wv h (r_move h rfl) rfl ?_
             clear h a w; intro a w h
             refine wv h (r_bin h rfl rfl (B.neq_int)) rfl ?_
             clear h a w; intro a w h
             refine wnil (c_then ?_)
             first
              | refine c_condD h rfl (fun ht11 => ?_) (fun ht11 => ?_)
              | refine c_condP h rfl (by first | (simp only [Bool.and_eq_true, Bool.or_eq_true, Bool.not_eq_true', decide_eq_true_eq, decide_eq_false_iff_not, ne_eq, Bool.not_eq_eq_eq_not, Bool.not_true, beq_iff_eq, bne_iff_ne]; exact Iff.rfl) | exact Iff.rfl) (fun ht11 => ?_) (fun ht11 => ?_)
             ·
              exfalso
              simp at ht11
             ·
              refine c_skip ?_
              refine c_then ?_
              refine c_seq (c_region ?_)
              refine wv h (r_move h rfl) rfl ?_
              clear h a w; intro a w h
              refine wv h (r_assign h rfl) rfl ?_
              clear h a w; intro a w h
              refine wnil (c_then ?_)
              refine c_seq (c_region ?_)
              refine wv h (r_move h rfl) rfl ?_
              clear h a w; intro a w h
              refine wv h (r_move h rfl) rfl ?_
              clear h a w; intro a w h
              refine wl rfl (op_call h rfl K.go_law05_same (law05_same s _ bk2 b9 n6 D6 vm1 M1 m m' _ hJ6.ok hJ6.rest (by exact Views.own 0 rfl) (by exact ((hRV.prep G2).cons _).cons _) (by rw [hm12, hml']) h.2) rfl ?_)
              clear h a w; intro r a w hr h
              (try simp only [List.set_cons_zero, List.set_cons_succ] at h)
              refine wv h (r_not h rfl) rfl ?_
              clear h a w; intro a w h
              refine wnil (c_then ?_)
              first
               | refine c_condD h rfl (fun ht12 => ?_) (fun ht12 => ?_)
               | refine c_condP h rfl (by first | (simp only [Bool.and_eq_true, Bool.or_eq_true, Bool.not_eq_true', decide_eq_true_eq, decide_eq_false_iff_not, ne_eq, Bool.not_eq_eq_eq_not, Bool.not_true, beq_iff_eq, bne_iff_ne]; exact Iff.rfl) | exact Iff.rfl) (fun ht12 => ?_) (fun ht12 => ?_)
              ·
               have hr2 : ¬ m' = m := fun e => by rw [hr.2 e] at ht12; simp at ht12
               have hmp : m' = Jn.put m (pgs pl) := hm'.resolve_left hr2
               rw [hmp] at hJ6
               as_aux_lemma =>
                refine c_seq (c_region ?_)
                refine wv h (r_move h rfl) rfl ?_
                clear h a w; intro a w h
                refine wv h (r_move h rfl) rfl ?_
                clear h a w; intro a w h
                refine wl rfl (op_call h rfl K.go_law05_put (law05_put s _ vm1 vl M1 m pl (JnI bk2 b9 D6 n6 :: OwnL id vm1 M1 :: OwnM 2 cellsPg vl pl :: G2) (G1 ++ F) _ rfl hRV (by exact Views.own 1 rfl) (by exact Views.own 2 rfl) (by exact ((hpR.cons _).cons _).cons _) hok2 (by omega) h.2) rfl ?_)
                clear h a w; intro y a w hy h
                (try simp only [List.set_cons_zero, List.set_cons_succ] at h)
                obtain ⟨v125, M125, G3⟩ := y
                dsimp only at hy h
                replace h := h.mem (fun z => Sat.dropIn (J := G2) (((Sat.pull3 z).rid 1).rid 1))
                refine wv h (r_assign h rfl) rfl ?_
                clear h a w; intro a w h
                refine wnil (c_then ?_)
                refine c_seq (c_region ?_)
                refine wv h (r_move h rfl) rfl ?_
                clear h a w; intro a w h
                refine wv h (r_move h rfl) rfl ?_
                clear h a w; intro a w h
                refine wl rfl (op_call h rfl K.go_law05_same (law05_same s _ bk2 b9 n6 D6 v125 M125 (Jn.put m (pgs pl)) (Jn.put m (pgs pl)) _ hJ6.ok hJ6.rest (by exact Views.own 0 rfl) (by exact hy.cons _) rfl h.2) rfl ?_)
                clear h a w; intro r2 a w hr3 h
                (try simp only [List.set_cons_zero, List.set_cons_succ] at h)
                obtain rfl : r2 = true := hr3.2 rfl
                refine wv h (r_not h rfl) rfl ?_
                clear h a w; intro a w h
                refine wnil (c_then ?_)
                first
                 | refine c_condD h rfl (fun ht13 => ?_) (fun ht13 => ?_)
                 | refine c_condP h rfl (by first | (simp only [Bool.and_eq_true, Bool.or_eq_true, Bool.not_eq_true', decide_eq_true_eq, decide_eq_false_iff_not, ne_eq, Bool.not_eq_eq_eq_not, Bool.not_true, beq_iff_eq, bne_iff_ne]; exact Iff.rfl) | exact Iff.rfl) (fun ht13 => ?_) (fun ht13 => ?_)
                ·
                 exfalso
                 simp at ht13
                ·
                 refine c_skip ?_
                 refine b_normal ?_
                 refine c_then ?_
                 refine c_region ?_
                 refine wv h (r_move h rfl) rfl ?_
                 clear h a w; intro a w h
                 refine wv h (r_bin h rfl rfl (B.add_i64 (by omega) (by omega))) rfl ?_
                 clear h a w; intro a w h
                 refine wv h (r_assign h rfl) rfl ?_
                 clear h a w; intro a w h
                 refine wnil ?_
                 refine ⟨(i + 1, ⟨bk2, D6, n6, v125, M125, Jn.put m (pgs pl), G3 ++ G1⟩), ?_, ⟨by show i + 1 ≤ _; omega, hJ6, by dsimp only; omega, by simp [hm12], by dsimp only; rw [List.append_assoc]; exact hy⟩, by show acts.length - (i + 1) < acts.length - i; omega⟩
                 dsimp only
                 rw [List.append_assoc]
                 exact h.keep [0, 1, 5, 6, 8, 10]
              ·
               refine c_skip ?_
               refine b_normal ?_
               refine c_then ?_
               refine c_region ?_
               refine wv h (r_move h rfl) rfl ?_
               clear h a w; intro a w h
               refine wv h (r_bin h rfl rfl (B.add_i64 (by omega) (by omega))) rfl ?_
               clear h a w; intro a w h
               refine wv h (r_assign h rfl) rfl ?_
               clear h a w; intro a w h
               refine wnil ?_
               have hr2 : r = true := by simpa using ht12
               have hmm := hr.1 hr2
               rw [hmm] at hJ6
               refine ⟨(i + 1, ⟨bk2, D6, n6, vm1, M1, m, G1⟩), ?_, ⟨by show i + 1 ≤ _; omega, hJ6, by dsimp only; omega, hm12, hRV⟩, by show acts.length - (i + 1) < acts.length - i; omega⟩
               dsimp only
               exact (h.mem (fun z => Sat.dropIn (G := []) (J := G2) (z.rid 2))).keep [0, 1, 5, 6, 8, 10]
       ·
        refine c_exit ?_
        refine e_then ?_
        refine e_then ?_
        refine e_here ?_
        refine c_then ?_
        refine c_seq (c_region ?_)
        refine wv h (r_assign h rfl) rfl ?_
        clear h a w; intro a w h
        refine wnil (c_then ?_)
        refine c_ret ?_
        exact ret1 h rfl rfl ⟨(), rfl, Sat.dropApp2 (h.2.drop 2), trivial⟩
end Go.Proofs.K
