/- The contracts of package disk: writes, reads, flushes, crashes, twins. -/
import Derived.Test.YtnplbpmdehcknaaDisk
set_option linter.unusedVariables false
set_option linter.unusedSimpArgs false
set_option maxRecDepth 10000
set_option maxHeartbeats 2000000
namespace Go.Proofs.K
open Go.Sl
attribute [local irreducible] Go.Sl.Own Go.Sl.Blk Go.Sl.Sep Go.Sl.Ex Go.Sl.Fact

theorem zeros64 (N : Nat) : (List.range (N * 64)).map (fun j => (Value.agg (Array.replicate 64 (.int .u8 0))).cells[j % (Value.agg (Array.replicate 64 (.int .u8 0))).cells.size]!) = (List.replicate N B64.zero).flatMap cells8 := by
  have e : ∀ j, (Value.agg (Array.replicate 64 (.int .u8 0))).cells[j % (Value.agg (Array.replicate 64 (.int .u8 0))).cells.size]! = Value.int .u8 0 := by
    intro j
    have h1 : (Value.agg (Array.replicate 64 (.int .u8 0))).cells = Array.replicate 64 (Value.int .u8 0) := rfl
    rw [h1]
    have h2 : j % (Array.replicate 64 (Value.int .u8 0)).size < 64 := by rw [Array.size_replicate]; exact Nat.mod_lt _ (by omega)
    rw [getElem!_pos (Array.replicate 64 (Value.int .u8 0)) _ (by rw [Array.size_replicate] at h2 ⊢; exact h2)]
    simp
  rw [List.map_congr_left (g := fun _ => Value.int .u8 0) (fun j _ => e j), List.map_const', List.length_range]
  induction N with
  | zero => rfl
  | succ n ih =>
    rw [List.replicate_succ, List.flatMap_cons, ← ih, show (n + 1) * 64 = 64 + n * 64 by omega, ← List.replicate_append_replicate]
    rfl

theorem disk_New (s w : World) (c : Int) (F : List HItem) (hs : Sat s w F) :
    Calls P n_disk_New #[.int .i64 c] w (Ret s (fun b : Nat => dp b) (fun b => DiskI b (Dk.new (min (max c 0) 4096).toNat) :: F) (fun _ => True)) := by
  obtain ⟨N, hN⟩ : ∃ N : Nat, N = (min (max c 0) 4096).toNat := ⟨_, rfl⟩
  rw [← hN]
  refine enter K.fn_disk_New rfl K.nt_disk_New rfl hs ?_
  clear hs w; intro a w h
  refine c_seq (c_region ?_)
  refine wv h (r_assign h rfl) rfl ?_
  clear h a w; intro a w h
  refine wnil (c_then ?_)
  refine c_seq (c_region ?_)
  refine wv h (r_move h rfl) rfl ?_
  clear h a w; intro a w h
  refine wv h (r_max2 h rfl rfl) rfl ?_
  clear h a w; intro a w h
  refine wv h (r_min2 h rfl rfl) rfl ?_
  clear h a w; intro a w h
  refine wl rfl (op_makeSlice h K.u_S_A64_uint8 K.sz_A64_uint8 K.z_A64_uint8 rfl rfl N N (by omega) (by omega) (Nat.le_refl _) (by omega) rfl rfl rfl ?_)
  clear h a w; intro v6 a w h
  rw [zeros64 N, show Own 64 v6 N ((List.replicate N B64.zero).flatMap cells8) = OwnM 64 cells8 v6 (List.replicate N B64.zero) from OwnM_eq rfl (by simp)] at h
  obtain ⟨A, cap, rfl, _⟩ := (Views.own 0 rfl : Views (OwnM 64 cells8 v6 (List.replicate N B64.zero) :: F) 64 v6 _ _).shape h.2
  refine wv h (r_build (cells := ⟨[.slice A (List.replicate N B64.zero).length cap, .slice none 0 0, .int .i64 (-1), .bool false, .int .i64 0]⟩) h K.u_disk_Disk K.z_disk_Disk K.pl_disk_Disk rfl (by kernel_rfl)) rfl ?_
  clear h a w; intro a w h
  refine wl rfl (op_box h rfl rfl ?_)
  clear h a w; intro b8 a w h
  try simp only [Value.cells] at h
  refine wv h (r_assign h rfl) rfl ?_
  clear h a w; intro a w h
  refine wnil (c_then ?_)
  refine c_ret ?_
  have h2 := (h.mem (fun q => q)).addNilM (size := 65) (cells := cellsW)
  have h3 := ((h2.front 1 rfl).2.perm (M := Blk b8 (.cells ⟨[.slice A (List.replicate N B64.zero).length cap, .slice none 0 0, .int .i64 (-1), .bool false, .int .i64 0]⟩ t_disk_Disk) :: OwnM 64 cells8 (.slice A (List.replicate N B64.zero).length cap) (List.replicate N B64.zero) :: OwnM 65 cellsW (.slice none 0 0) [] :: F) (.cons _ (.swap _ _ _)))
  exact ret1 h rfl rfl ⟨b8, rfl, DiskI_shut (D := Dk.new N) h3, trivial⟩

theorem splice_W (k : Nat) (p : List UInt8) : splice ⟨cellsW (k, B64.zero)⟩ 1 (bs (p.take 64)) = ⟨cellsW (k, B64.of p)⟩ := by
  have e : (bs (p.take 64)).length = min 64 p.length := by rw [bs_length, List.length_take]
  have h1 : (B64.zero.val).drop (min 64 p.length) = List.replicate (64 - p.length) 0 := by
    show (List.replicate 64 (0 : UInt8)).drop _ = _
    rw [List.drop_replicate]; congr 1; omega
  unfold splice
  rw [e]
  show ((cellsW (k, B64.zero)).take 1 ++ bs (p.take 64) ++ (cellsW (k, B64.zero)).drop (1 + min 64 p.length)).toArray = (Value.int .i64 (k : Int) :: bs (p.take 64 ++ List.replicate (64 - p.length) 0)).toArray
  rw [bs_append, ← h1, ← bs_drop, Nat.add_comm]
  rfl

theorem disk_Write (s w : World) (b : Nat) (D : Dk) (c : Int) (pv : Value) (p : List UInt8) (L : List HItem) (i : Nat) (hi : L[i]? = some (DiskI b D)) (hok : D.ok) (hac : D.acts < 1000000000) (hp : ViewsB (L.eraseIdx i) pv p) (hs : Sat s w L) :
    Calls P n_disk_Disk_Write #[dp b, .int .i64 c, pv] w (Ret s (fun _ : Unit => .int .i64 (D.eWrite c p)) (fun _ => L.set i (DiskI b (D.write' c p))) (fun _ => True)) := by
  refine at0 i hi hs fun F hF hs2 => ?_
  rw [← hF] at hp
  clear hs hi hF
  replace hs := hs2
  clear hs2
  refine enter K.fn_disk_Disk_Write rfl K.nt_disk_Disk_Write rfl hs ?_
  clear hs w; intro a w h
  refine c_seq (c_region ?_)
  refine wv h (r_assign h rfl) rfl ?_
  clear h a w; intro a w h
  refine wnil (c_then ?_)
  refine c_seq ?_
  refine c_seq (c_region ?_)
  refine wv h (r_move h rfl) rfl ?_
  clear h a w; intro a w h
  refine wv h (r_bin h rfl rfl (B.lss_int)) rfl ?_
  clear h a w; intro a w h
  refine wv h (r_move h rfl) rfl ?_
  clear h a w; intro a w h
  refine wvG h (by first | exact .t rfl | exact .f rfl | exact .gt rfl | exact .gf rfl) (fun hg => by (try simp only [↓gval_on hg, ↓gval_and hg] at h); (have hg2 := hg; (try simp only [Bool.and_eq_true, Bool.or_eq_true, Bool.not_eq_true', decide_eq_true_eq, decide_eq_false_iff_not] at hg2)); first | exact r_move h rfl) rfl ?_
  clear h a w; intro a w h
  refine wvG h (by first | exact .t rfl | exact .f rfl | exact .gt rfl | exact .gf rfl) (fun hg => by (try simp only [↓gval_on hg, ↓gval_and hg] at h); (have hg2 := hg; (try simp only [Bool.and_eq_true, Bool.or_eq_true, Bool.not_eq_true', decide_eq_true_eq, decide_eq_false_iff_not] at hg2)); first | exact r_move h rfl) rfl ?_
  clear h a w; intro a w h
  refine wcG h (by first | exact .t rfl | exact .f rfl | exact .gt rfl | exact .gf rfl) K.go_disk_Disk_Sectors (fun hg => by (try simp only [↓gval_on hg, ↓gval_and hg]); (have hg2 := hg; (try simp only [Bool.and_eq_true, Bool.or_eq_true, Bool.not_eq_true', decide_eq_true_eq, decide_eq_false_iff_not] at hg2)); exact ⟨_, rfl, disk_Sectors s _ _ _ _ 0 rfl h.2⟩) rfl ?_
  clear h a w; intro a w h
  refine wvG h (by first | exact .t rfl | exact .f rfl | exact .gt rfl | exact .gf rfl) (fun hg => by (try simp only [↓gval_on hg, ↓gval_and hg] at h); (have hg2 := hg; (try simp only [Bool.and_eq_true, Bool.or_eq_true, Bool.not_eq_true', decide_eq_true_eq, decide_eq_false_iff_not] at hg2)); first | exact r_bin h rfl rfl (B.geq_int)) rfl ?_
  clear h a w; intro a w h
  first
    | (refine wv h (r_pickA h rfl rfl rfl) rfl ?_)
    | (refine wv h (r_pickO h rfl rfl rfl) rfl ?_)
    | (refine wv h (r_pick_true h rfl rfl) rfl ?_)
    | (refine wv h (r_pick_false h rfl rfl) rfl ?_)
    | (refine wv h (r_pick h rfl rfl rfl) rfl ?_)
  clear h a w; intro a w h
  refine wv h (r_move h rfl) rfl ?_
  clear h a w; intro a w h
  refine wvG h (by first | exact .t rfl | exact .f rfl | exact .gt rfl | exact .gf rfl) (fun hg => by (try simp only [↓gval_on hg, ↓gval_and hg] at h); (have hg2 := hg; (try simp only [Bool.and_eq_true, Bool.or_eq_true, Bool.not_eq_true', decide_eq_true_eq, decide_eq_false_iff_not] at hg2)); first | exact r_move h rfl) rfl ?_
  clear h a w; intro a w h
  refine wvG h (by first | exact .t rfl | exact .f rfl | exact .gt rfl | exact .gf rfl) (fun hg => by (try simp only [↓gval_on hg, ↓gval_and hg] at h); (have hg2 := hg; (try simp only [Bool.and_eq_true, Bool.or_eq_true, Bool.not_eq_true', decide_eq_true_eq, decide_eq_false_iff_not] at hg2)); first | exact r_lenB h rfl K.u_S_uint8 (by first | exact ViewsB.own 0 rfl | exact ViewsB.own 1 rfl | exact ViewsB.own 2 rfl | exact ViewsB.own 3 rfl | exact ViewsB.own 4 rfl | exact ViewsB.own 5 rfl | assumption | exact ViewsB.nil _ | exact ViewsB.arr 0 rfl (by first | assumption | rfl | (simp; done)) (Nat.le_refl _) (by simp [maxLen]) | exact ViewsB.arr 1 rfl (by first | assumption | rfl | (simp; done)) (Nat.le_refl _) (by simp [maxLen]) | exact ViewsB.arr 2 rfl (by first | assumption | rfl | (simp; done)) (Nat.le_refl _) (by simp [maxLen]) | exact ViewsB.arr 3 rfl (by first | assumption | rfl | (simp; done)) (Nat.le_refl _) (by simp [maxLen]) | exact ViewsB.arr 4 rfl (by first | assumption | rfl | (simp; done)) (Nat.le_refl _) (by simp [maxLen]) | exact ViewsB.of_drop 1 (by assumption) | exact ViewsB.of_drop 2 (by assumption) | exact ViewsB.of_drop 3 (by assumption) | exact ViewsB.of_drop 4 (by assumption) | exact ViewsB.of_drop 5 (by assumption) | exact ViewsB.of_drop 6 (by assumption) | exact ViewsB.of_drop 7 (by assumption) | exact ViewsB.of_drop 8 (by assumption) | exact ViewsB.of_drop 9 (by assumption) | exact ViewsB.of_drop 10 (by assumption) | exact ViewsB.of_drop 11 (by assumption) | exact ViewsB.of_drop 12 (by assumption) | exact ViewsB.sub (by first | exact ViewsB.own 0 rfl | exact ViewsB.own 1 rfl | exact ViewsB.own 2 rfl | exact ViewsB.own 3 rfl | exact ViewsB.own 4 rfl | exact ViewsB.own 5 rfl | assumption | exact ViewsB.nil _ | exact ViewsB.arr 0 rfl (by first | assumption | rfl | (simp; done)) (Nat.le_refl _) (by simp [maxLen]) | exact ViewsB.arr 1 rfl (by first | assumption | rfl | (simp; done)) (Nat.le_refl _) (by simp [maxLen]) | exact ViewsB.arr 2 rfl (by first | assumption | rfl | (simp; done)) (Nat.le_refl _) (by simp [maxLen]) | exact ViewsB.arr 3 rfl (by first | assumption | rfl | (simp; done)) (Nat.le_refl _) (by simp [maxLen]) | exact ViewsB.arr 4 rfl (by first | assumption | rfl | (simp; done)) (Nat.le_refl _) (by simp [maxLen]) | exact ViewsB.of_drop 1 (by assumption) | exact ViewsB.of_drop 2 (by assumption) | exact ViewsB.of_drop 3 (by assumption) | exact ViewsB.of_drop 4 (by assumption) | exact ViewsB.of_drop 5 (by assumption) | exact ViewsB.of_drop 6 (by assumption) | exact ViewsB.of_drop 7 (by assumption) | exact ViewsB.of_drop 8 (by assumption) | exact ViewsB.of_drop 9 (by assumption) | exact ViewsB.of_drop 10 (by assumption) | exact ViewsB.of_drop 11 (by assumption) | exact ViewsB.of_drop 12 (by assumption)) (by omega) (by first | omega | (simp; done) | (simp; omega)))) rfl ?_
  clear h a w; intro a w h
  refine wvG h (by first | exact .t rfl | exact .f rfl | exact .gt rfl | exact .gf rfl) (fun hg => by (try simp only [↓gval_on hg, ↓gval_and hg] at h); (have hg2 := hg; (try simp only [Bool.and_eq_true, Bool.or_eq_true, Bool.not_eq_true', decide_eq_true_eq, decide_eq_false_iff_not] at hg2)); first | exact r_bin h rfl rfl (B.gtr_int)) rfl ?_
  clear h a w; intro a w h
  first
    | (refine wv h (r_pickA h rfl rfl rfl) rfl ?_)
    | (refine wv h (r_pickO h rfl rfl rfl) rfl ?_)
    | (refine wv h (r_pick_true h rfl rfl) rfl ?_)
    | (refine wv h (r_pick_false h rfl rfl) rfl ?_)
    | (refine wv h (r_pick h rfl rfl rfl) rfl ?_)
  clear h a w; intro a w h
  refine wnil (c_then ?_)
  first
   | refine c_condD h rfl (fun ht1 => ?_) (fun ht1 => ?_)
   | refine c_condP h rfl (by first | (simp only [Bool.and_eq_true, Bool.or_eq_true, Bool.not_eq_true', decide_eq_true_eq, decide_eq_false_iff_not, ne_eq, Bool.not_eq_eq_eq_not, Bool.not_true, beq_iff_eq, bne_iff_ne]; exact Iff.rfl) | exact Iff.rfl) (fun ht1 => ?_) (fun ht1 => ?_)
  ·
   as_aux_lemma =>
    refine c_seq (c_region ?_)
    refine wv h (r_assign h rfl) rfl ?_
    clear h a w; intro a w h
    refine wnil (c_then ?_)
    refine c_ret ?_
    have e : c < 0 ∨ (D.safe.length : Int) ≤ c ∨ 64 < p.length := by omega
    exact ret1 h rfl rfl ⟨(), by rw [Dk.eWrite, if_pos e], by rw [Dk.write', if_pos e]; exact h.2, trivial⟩
  ·
   have e : ¬ (c < 0 ∨ (D.safe.length : Int) ≤ c ∨ 64 < p.length) := by omega
   obtain ⟨k, rfl⟩ : ∃ k : Nat, c = (k : Int) := ⟨c.toNat, by omega⟩
   rw [Dk.eWrite, if_neg e, Dk.write', if_neg e, show (k : Int).toNat = k from rfl]
   refine c_skip ?_
   refine c_then ?_
   obtain ⟨vs, vw, h'⟩ := St_open h
   replace h := h'
   clear h'
   refine c_seq (c_region ?_)
   refine wv h (r_move h rfl) rfl ?_
   clear h a w; intro a w h
   refine wv h (r_nilCheck h rfl) rfl ?_
   clear h a w; intro a w h
   refine wv h (r_fieldAddr h 3 rfl K.u_disk_Disk rfl K.sz_bool rfl rfl) rfl ?_
   clear h a w; intro a w h
   first
      | (refine wv h (r_ldN h rfl K.u_bool rfl 0 rfl rfl) rfl ?_)
      | (refine wv h (r_ldN h rfl K.u_bool rfl 1 rfl rfl) rfl ?_)
      | (refine wv h (r_ldN h rfl K.u_bool rfl 2 rfl rfl) rfl ?_)
      | (refine wv h (r_ldN h rfl K.u_bool rfl 3 rfl rfl) rfl ?_)
      | (refine wv h (r_ldN h rfl K.u_bool rfl 4 rfl rfl) rfl ?_)
      | (refine wv h (r_ldN h rfl K.u_bool rfl 5 rfl rfl) rfl ?_)
      | (refine wv h (r_ldN h rfl K.u_bool rfl 6 rfl rfl) rfl ?_)
      | (refine wv h (r_ldC (o := 3) h rfl K.u_bool rfl 0 rfl) rfl ?_)
      | (refine wv h (r_ldC (o := 3) h rfl K.u_bool rfl 1 rfl) rfl ?_)
      | (refine wv h (r_ldC (o := 3) h rfl K.u_bool rfl 2 rfl) rfl ?_)
      | (refine wv h (r_ldC (o := 3) h rfl K.u_bool rfl 3 rfl) rfl ?_)
      | (refine wv h (r_ldC (o := 3) h rfl K.u_bool rfl 4 rfl) rfl ?_)
      | (refine wv h (r_ldC (o := 3) h rfl K.u_bool rfl 5 rfl) rfl ?_)
      | (refine wv h (r_ldC (o := 3) h rfl K.u_bool rfl 6 rfl) rfl ?_)
      | (refine wv h (r_load h rfl K.u_bool rfl 0 rfl rfl) rfl ?_)
      | (refine wv h (r_load h rfl K.u_bool rfl 1 rfl rfl) rfl ?_)
      | (refine wv h (r_load h rfl K.u_bool rfl 2 rfl rfl) rfl ?_)
      | (refine wv h (r_load h rfl K.u_bool rfl 3 rfl rfl) rfl ?_)
      | (refine wv h (r_load h rfl K.u_bool rfl 4 rfl rfl) rfl ?_)
      | (refine wv h (r_load h rfl K.u_bool rfl 5 rfl rfl) rfl ?_)
      | (refine wv h (r_load1 h rfl K.u_bool rfl (by assumption)) rfl ?_)
   clear h a w; intro a w h
   refine wv h (r_assign h rfl) rfl ?_
   clear h a w; intro a w h
   refine wnil (c_then ?_)
   refine c_seq (c_region ?_)
   refine wv h (r_move h rfl) rfl ?_
   clear h a w; intro a w h
   replace h := St_shut h
   refine wl rfl (op_call h rfl K.go_disk_Disk_act (disk_act s _ b D _ 0 rfl hok h.2) rfl ?_)
   clear h a w; intro x a w hx h
   (try simp only [List.set_cons_zero, List.set_cons_succ] at h)
   replace h : St 49 s a w _ (DiskI b D.act :: F) := h
   refine wv h (r_assign h rfl) rfl ?_
   clear h a w; intro a w h
   refine wnil (c_then ?_)
   refine c_seq ?_
   refine c_seq (c_region ?_)
   refine wv h (r_move h rfl) rfl ?_
   clear h a w; intro a w h
   refine wv h (r_not h rfl) rfl ?_
   clear h a w; intro a w h
   refine wnil (c_then ?_)
   first
    | refine c_condD h rfl (fun ht2 => ?_) (fun ht2 => ?_)
    | refine c_condP h rfl (by first | (simp only [Bool.and_eq_true, Bool.or_eq_true, Bool.not_eq_true', decide_eq_true_eq, decide_eq_false_iff_not, ne_eq, Bool.not_eq_eq_eq_not, Bool.not_true, beq_iff_eq, bne_iff_ne]; exact Iff.rfl) | exact Iff.rfl) (fun ht2 => ?_) (fun ht2 => ?_)
   ·
    as_aux_lemma =>
     refine c_seq (c_region ?_)
     refine wv h (r_move h rfl) rfl ?_
     clear h a w; intro a w h
     refine wv h (r_build (cells := ⟨cellsW (k, B64.zero)⟩) h K.u_disk_write K.z_disk_write K.pl_disk_write rfl (by kernel_rfl)) rfl ?_
     clear h a w; intro a w h
     refine wl rfl (op_alloc h K.z_disk_write rfl ?_)
     clear h a w; intro b9 a w h
     first
          | (refine wl rfl (op_stA h rfl rfl K.sz_disk_write (by first | exact Row.len _ | rfl | assumption | (simp; done) | (simp; omega) | omega) (by first | exact Row.one _ | exact bs_one _ | assumption | (simp; done) | (simp; (repeat' apply And.intro) <;> first | rfl | assumption)) 0 rfl (by first | rfl | assumption | (simp; done) | (simp; omega) | omega) ?_))
          | (refine wl rfl (op_stA h rfl rfl K.sz_disk_write (by first | exact Row.len _ | rfl | assumption | (simp; done) | (simp; omega) | omega) (by first | exact Row.one _ | exact bs_one _ | assumption | (simp; done) | (simp; (repeat' apply And.intro) <;> first | rfl | assumption)) 1 rfl (by first | rfl | assumption | (simp; done) | (simp; omega) | omega) ?_))
          | (refine wl rfl (op_stA h rfl rfl K.sz_disk_write (by first | exact Row.len _ | rfl | assumption | (simp; done) | (simp; omega) | omega) (by first | exact Row.one _ | exact bs_one _ | assumption | (simp; done) | (simp; (repeat' apply And.intro) <;> first | rfl | assumption)) 2 rfl (by first | rfl | assumption | (simp; done) | (simp; omega) | omega) ?_))
          | (refine wl rfl (op_stA h rfl rfl K.sz_disk_write (by first | exact Row.len _ | rfl | assumption | (simp; done) | (simp; omega) | omega) (by first | exact Row.one _ | exact bs_one _ | assumption | (simp; done) | (simp; (repeat' apply And.intro) <;> first | rfl | assumption)) 3 rfl (by first | rfl | assumption | (simp; done) | (simp; omega) | omega) ?_))
          | (refine wl rfl (op_stA h rfl rfl K.sz_disk_write (by first | exact Row.len _ | rfl | assumption | (simp; done) | (simp; omega) | omega) (by first | exact Row.one _ | exact bs_one _ | assumption | (simp; done) | (simp; (repeat' apply And.intro) <;> first | rfl | assumption)) 4 rfl (by first | rfl | assumption | (simp; done) | (simp; omega) | omega) ?_))
          | (refine wl rfl (op_stA h rfl rfl K.sz_disk_write (by first | exact Row.len _ | rfl | assumption | (simp; done) | (simp; omega) | omega) (by first | exact Row.one _ | exact bs_one _ | assumption | (simp; done) | (simp; (repeat' apply And.intro) <;> first | rfl | assumption)) 5 rfl (by first | rfl | assumption | (simp; done) | (simp; omega) | omega) ?_))
     clear h a w; intro a w h
     (try simp only [List.set_cons_zero, List.set_cons_succ] at h)
     refine wnil (c_then ?_)
     refine c_seq (c_region ?_)
     refine wv h (r_fieldAddr h 1 rfl K.u_disk_write rfl K.sz_A64_uint8 rfl rfl) rfl ?_
     clear h a w; intro a w h
     refine wv h (r_sliceA h rfl K.u_A64_uint8 K.sz_uint8 rfl) rfl ?_
     clear h a w; intro a w h
     refine wv h (r_move h rfl) rfl ?_
     clear h a w; intro a w h
     refine wl rfl (op_copyBlk h rfl rfl K.u_S_uint8 K.sz_uint8 0 rfl (hp.cons _ |>.cons _) (by rw [cellsW_len]; omega) rfl ?_)
     clear h a w; intro a w h
     rw [splice_W] at h
     refine wnil (c_then ?_)
     obtain ⟨vs2, vw2, h'⟩ := St_open (h.front 1 rfl)
     replace h : St 49 s a w _ (DiskL b vs2 vw2 D.act ++ (Blk b9 (.cells ⟨cellsW (k, B64.of p)⟩ t_disk_write) :: F)) := h'
     clear h'
     obtain ⟨hok2, hs2, hw2⟩ := Dk.act_ok hok hac
     have hwl := hok2.2.2.2.2
     refine c_drawn 11 K.mixed rfl h ?_
     clear h a w; intro a w h
     have hD : Paid s w [] := Paid.nil
     refine d_take0 (listed' := #[true, false, false, false, false, false, false, false, false, false, false]) h hD 0 (by as_aux_lemma => kernel_rfl) rfl (by as_aux_lemma => kernel_rfl) (by as_aux_lemma => kernel_rfl) (by as_aux_lemma => kernel_rfl) (fun _ _ _ _ hh => hh) (fun w h => by first | exact r_move h rfl) rfl ?_
     clear hD h a w; intro a w h hD
     refine d_take0 (listed' := #[true, true, false, false, false, false, false, false, false, false, false]) h hD 1 (by as_aux_lemma => kernel_rfl) rfl (by as_aux_lemma => kernel_rfl) (by as_aux_lemma => kernel_rfl) (by as_aux_lemma => kernel_rfl) (fun _ _ _ _ hh => hh) (fun w h => by first | exact r_move h rfl) rfl ?_
     clear hD h a w; intro a w h hD
     refine d_take0 (listed' := #[true, true, true, false, false, false, false, false, false, false, false]) h hD 2 (by as_aux_lemma => kernel_rfl) rfl (by as_aux_lemma => kernel_rfl) (by as_aux_lemma => kernel_rfl) (by as_aux_lemma => kernel_rfl) (fun _ _ _ _ hh => hh) (fun w h => by first | exact r_nilCheck h rfl) rfl ?_
     clear hD h a w; intro a w h hD
     refine d_take0 (listed' := #[true, true, true, true, false, false, false, false, false, false, false]) h hD 3 (by as_aux_lemma => kernel_rfl) rfl (by as_aux_lemma => kernel_rfl) (by as_aux_lemma => kernel_rfl) (by as_aux_lemma => kernel_rfl) (fun _ _ _ _ hh => hh) (fun w h => by first | exact r_fieldAddr h 1 rfl K.u_disk_Disk rfl K.sz_S_disk_write rfl rfl) rfl ?_
     clear hD h a w; intro a w h hD
     refine d_take (listed' := #[true, true, true, true, true, false, false, false, false, false, false]) h hD 4 _ (by as_aux_lemma => kernel_rfl) rfl (by as_aux_lemma => kernel_rfl) (by as_aux_lemma => kernel_rfl) (by as_aux_lemma => kernel_rfl) (fun _ _ _ _ hh => hh) h.2 (fun w hw => by first | exact r_ldN ⟨h.1, hw⟩ rfl K.u_S_disk_write rfl 0 rfl rfl | exact r_ldN ⟨h.1, hw⟩ rfl K.u_S_disk_write rfl 1 rfl rfl | exact r_ldN ⟨h.1, hw⟩ rfl K.u_S_disk_write rfl 2 rfl rfl | exact r_ldN ⟨h.1, hw⟩ rfl K.u_S_disk_write rfl 3 rfl rfl | exact r_ldN ⟨h.1, hw⟩ rfl K.u_S_disk_write rfl 4 rfl rfl | exact r_ldN ⟨h.1, hw⟩ rfl K.u_S_disk_write rfl 5 rfl rfl | exact r_ldN ⟨h.1, hw⟩ rfl K.u_S_disk_write rfl 6 rfl rfl | exact r_ldC (o := 1) ⟨h.1, hw⟩ rfl K.u_S_disk_write rfl 0 rfl | exact r_ldC (o := 1) ⟨h.1, hw⟩ rfl K.u_S_disk_write rfl 1 rfl | exact r_ldC (o := 1) ⟨h.1, hw⟩ rfl K.u_S_disk_write rfl 2 rfl | exact r_ldC (o := 1) ⟨h.1, hw⟩ rfl K.u_S_disk_write rfl 3 rfl | exact r_ldC (o := 1) ⟨h.1, hw⟩ rfl K.u_S_disk_write rfl 4 rfl | exact r_ldC (o := 1) ⟨h.1, hw⟩ rfl K.u_S_disk_write rfl 5 rfl | exact r_ldC (o := 1) ⟨h.1, hw⟩ rfl K.u_S_disk_write rfl 6 rfl | exact r_load ⟨h.1, hw⟩ rfl K.u_S_disk_write rfl 0 rfl rfl | exact r_load ⟨h.1, hw⟩ rfl K.u_S_disk_write rfl 1 rfl rfl | exact r_load ⟨h.1, hw⟩ rfl K.u_S_disk_write rfl 2 rfl rfl | exact r_load ⟨h.1, hw⟩ rfl K.u_S_disk_write rfl 3 rfl rfl | exact r_load ⟨h.1, hw⟩ rfl K.u_S_disk_write rfl 4 rfl rfl | exact r_load ⟨h.1, hw⟩ rfl K.u_S_disk_write rfl 5 rfl rfl | exact r_load1 ⟨h.1, hw⟩ rfl K.u_S_disk_write rfl (by assumption)) rfl ?_
     clear hD h a w; intro a w h hD
     refine d_take (listed' := #[true, true, true, true, true, true, false, false, false, false, false]) h hD 5 _ (by as_aux_lemma => kernel_rfl) rfl (by as_aux_lemma => kernel_rfl) (by as_aux_lemma => kernel_rfl) (by as_aux_lemma => kernel_rfl) (fun _ _ _ _ hh => hh) h.2 (fun w hw => by first | exact r_ldA ⟨h.1, hw⟩ rfl K.u_disk_write rfl K.sz_disk_write 0 rfl (by first | exact Row.len _ | rfl | assumption | (simp; done) | (simp; omega) | omega) | exact r_ldA ⟨h.1, hw⟩ rfl K.u_disk_write rfl K.sz_disk_write 1 rfl (by first | exact Row.len _ | rfl | assumption | (simp; done) | (simp; omega) | omega) | exact r_ldA ⟨h.1, hw⟩ rfl K.u_disk_write rfl K.sz_disk_write 2 rfl (by first | exact Row.len _ | rfl | assumption | (simp; done) | (simp; omega) | omega) | exact r_ldA ⟨h.1, hw⟩ rfl K.u_disk_write rfl K.sz_disk_write 3 rfl (by first | exact Row.len _ | rfl | assumption | (simp; done) | (simp; omega) | omega) | exact r_ldA ⟨h.1, hw⟩ rfl K.u_disk_write rfl K.sz_disk_write 4 rfl (by first | exact Row.len _ | rfl | assumption | (simp; done) | (simp; omega) | omega) | exact r_ldA ⟨h.1, hw⟩ rfl K.u_disk_write rfl K.sz_disk_write 5 rfl (by first | exact Row.len _ | rfl | assumption | (simp; done) | (simp; omega) | omega) | exact r_loadCA ⟨h.1, hw⟩ rfl K.u_disk_write rfl K.sz_disk_write (by assumption) (by first | rfl | assumption | (simp; done) | (simp; omega) | omega)) rfl ?_
     clear hD h a w; intro a w h hD
     refine d_only (listed' := #[true, true, true, true, true, true, true, false, false, false, false]) 6 [false, true] (by as_aux_lemma => kernel_rfl) rfl rfl (by as_aux_lemma => kernel_rfl) (by as_aux_lemma => kernel_rfl) ?_
     refine op_build1 h K.u_S_disk_write K.sz_disk_write K.z_disk_write rfl rfl rfl (by first | exact Row.len _ | rfl | assumption | (simp; done) | (simp; omega) | omega) rfl ?_
     clear hD h a w; intro b43 a w h
     refine d_pay (Paid.cons (by first | exact h.2 | exact h.2.drop 1 | exact h.2.drop 2 | exact h.2.drop 3 | exact h.2.drop 4 | exact h.2.drop 5 | exact h.2.drop 6 | exact h.2.drop 7) (Paid.nil)) (fun hD => ?_)
     refine d_only (listed' := #[true, true, true, true, true, true, true, true, false, false, false]) 7 [false] (by as_aux_lemma => kernel_rfl) rfl rfl (by as_aux_lemma => kernel_rfl) (by as_aux_lemma => kernel_rfl) ?_
     first
          | (refine op_appendR1 h rfl rfl K.u_S_disk_write K.sz_disk_write K.z_disk_write rfl rfl 0 rfl (by first | omega | (simp only [List.length_cons, List.length_nil]; omega) | (simp; done) | (simp; omega)) rfl ?_)
          | (refine op_appendR1 h rfl rfl K.u_S_disk_write K.sz_disk_write K.z_disk_write rfl rfl 1 rfl (by first | omega | (simp only [List.length_cons, List.length_nil]; omega) | (simp; done) | (simp; omega)) rfl ?_)
          | (refine op_appendR1 h rfl rfl K.u_S_disk_write K.sz_disk_write K.z_disk_write rfl rfl 2 rfl (by first | omega | (simp only [List.length_cons, List.length_nil]; omega) | (simp; done) | (simp; omega)) rfl ?_)
          | (refine op_appendR1 h rfl rfl K.u_S_disk_write K.sz_disk_write K.z_disk_write rfl rfl 3 rfl (by first | omega | (simp only [List.length_cons, List.length_nil]; omega) | (simp; done) | (simp; omega)) rfl ?_)
          | (refine op_appendR1 h rfl rfl K.u_S_disk_write K.sz_disk_write K.z_disk_write rfl rfl 4 rfl (by first | omega | (simp only [List.length_cons, List.length_nil]; omega) | (simp; done) | (simp; omega)) rfl ?_)
          | (refine op_appendR1 h rfl rfl K.u_S_disk_write K.sz_disk_write K.z_disk_write rfl rfl 5 rfl (by first | omega | (simp only [List.length_cons, List.length_nil]; omega) | (simp; done) | (simp; omega)) rfl ?_)
     clear hD h a w; intro v44 a w h
     (try simp only [List.set_cons_zero, List.set_cons_succ] at h)
     refine d_pay (Paid.nil) (fun hD => ?_)
     refine d_take0 (listed' := #[true, true, true, true, true, true, true, true, true, false, false]) h hD 8 (by as_aux_lemma => kernel_rfl) rfl (by as_aux_lemma => kernel_rfl) (by as_aux_lemma => kernel_rfl) (by as_aux_lemma => kernel_rfl) (fun _ _ _ _ hh => hh) (fun w h => by first | exact r_nilCheck h rfl) rfl ?_
     clear hD h a w; intro a w h hD
     refine d_take0 (listed' := #[true, true, true, true, true, true, true, true, true, true, false]) h hD 9 (by as_aux_lemma => kernel_rfl) rfl (by as_aux_lemma => kernel_rfl) (by as_aux_lemma => kernel_rfl) (by as_aux_lemma => kernel_rfl) (fun _ _ _ _ hh => hh) (fun w h => by first | exact r_fieldAddr h 1 rfl K.u_disk_Disk rfl K.sz_S_disk_write rfl rfl) rfl ?_
     clear hD h a w; intro a w h hD
     refine d_only (listed' := #[true, true, true, true, true, true, true, true, true, true, true]) 10 [] (by as_aux_lemma => kernel_rfl) rfl rfl (by as_aux_lemma => kernel_rfl) (by as_aux_lemma => kernel_rfl) ?_
     first
          | (refine op_storeN h rfl rfl K.sz_S_disk_write (by first | rfl | assumption | exact Views.oneCell (Views.own 0 rfl) h.2 | exact Views.oneCell (Views.own 1 rfl) h.2 | exact Views.oneCell (Views.own 2 rfl) h.2 | exact Views.oneCell (Views.own 3 rfl) h.2 | exact Views.oneCell (Views.own 4 rfl) h.2 | exact Views.oneCell (Views.own 5 rfl) h.2 | exact Views.oneCell (by assumption) h.2) 0 rfl rfl ?_)
          | (refine op_storeN h rfl rfl K.sz_S_disk_write (by first | rfl | assumption | exact Views.oneCell (Views.own 0 rfl) h.2 | exact Views.oneCell (Views.own 1 rfl) h.2 | exact Views.oneCell (Views.own 2 rfl) h.2 | exact Views.oneCell (Views.own 3 rfl) h.2 | exact Views.oneCell (Views.own 4 rfl) h.2 | exact Views.oneCell (Views.own 5 rfl) h.2 | exact Views.oneCell (by assumption) h.2) 1 rfl rfl ?_)
          | (refine op_storeN h rfl rfl K.sz_S_disk_write (by first | rfl | assumption | exact Views.oneCell (Views.own 0 rfl) h.2 | exact Views.oneCell (Views.own 1 rfl) h.2 | exact Views.oneCell (Views.own 2 rfl) h.2 | exact Views.oneCell (Views.own 3 rfl) h.2 | exact Views.oneCell (Views.own 4 rfl) h.2 | exact Views.oneCell (Views.own 5 rfl) h.2 | exact Views.oneCell (by assumption) h.2) 2 rfl rfl ?_)
          | (refine op_storeN h rfl rfl K.sz_S_disk_write (by first | rfl | assumption | exact Views.oneCell (Views.own 0 rfl) h.2 | exact Views.oneCell (Views.own 1 rfl) h.2 | exact Views.oneCell (Views.own 2 rfl) h.2 | exact Views.oneCell (Views.own 3 rfl) h.2 | exact Views.oneCell (Views.own 4 rfl) h.2 | exact Views.oneCell (Views.own 5 rfl) h.2 | exact Views.oneCell (by assumption) h.2) 3 rfl rfl ?_)
          | (refine op_storeN h rfl rfl K.sz_S_disk_write (by first | rfl | assumption | exact Views.oneCell (Views.own 0 rfl) h.2 | exact Views.oneCell (Views.own 1 rfl) h.2 | exact Views.oneCell (Views.own 2 rfl) h.2 | exact Views.oneCell (Views.own 3 rfl) h.2 | exact Views.oneCell (Views.own 4 rfl) h.2 | exact Views.oneCell (Views.own 5 rfl) h.2 | exact Views.oneCell (by assumption) h.2) 4 rfl rfl ?_)
          | (refine op_storeN h rfl rfl K.sz_S_disk_write (by first | rfl | assumption | exact Views.oneCell (Views.own 0 rfl) h.2 | exact Views.oneCell (Views.own 1 rfl) h.2 | exact Views.oneCell (Views.own 2 rfl) h.2 | exact Views.oneCell (Views.own 3 rfl) h.2 | exact Views.oneCell (Views.own 4 rfl) h.2 | exact Views.oneCell (Views.own 5 rfl) h.2 | exact Views.oneCell (by assumption) h.2) 5 rfl rfl ?_)
          | (refine op_storeN h rfl rfl K.sz_S_disk_write (by first | rfl | assumption | exact Views.oneCell (Views.own 0 rfl) h.2 | exact Views.oneCell (Views.own 1 rfl) h.2 | exact Views.oneCell (Views.own 2 rfl) h.2 | exact Views.oneCell (Views.own 3 rfl) h.2 | exact Views.oneCell (Views.own 4 rfl) h.2 | exact Views.oneCell (Views.own 5 rfl) h.2 | exact Views.oneCell (by assumption) h.2) 6 rfl rfl ?_)
          | (refine op_storeC (o := 1) h rfl rfl K.sz_S_disk_write (by first | rfl | assumption | exact Views.oneCell (Views.own 0 rfl) h.2 | exact Views.oneCell (Views.own 1 rfl) h.2 | exact Views.oneCell (Views.own 2 rfl) h.2 | exact Views.oneCell (Views.own 3 rfl) h.2 | exact Views.oneCell (Views.own 4 rfl) h.2 | exact Views.oneCell (Views.own 5 rfl) h.2 | exact Views.oneCell (by assumption) h.2) 0 rfl ?_)
          | (refine op_storeC (o := 1) h rfl rfl K.sz_S_disk_write (by first | rfl | assumption | exact Views.oneCell (Views.own 0 rfl) h.2 | exact Views.oneCell (Views.own 1 rfl) h.2 | exact Views.oneCell (Views.own 2 rfl) h.2 | exact Views.oneCell (Views.own 3 rfl) h.2 | exact Views.oneCell (Views.own 4 rfl) h.2 | exact Views.oneCell (Views.own 5 rfl) h.2 | exact Views.oneCell (by assumption) h.2) 1 rfl ?_)
          | (refine op_storeC (o := 1) h rfl rfl K.sz_S_disk_write (by first | rfl | assumption | exact Views.oneCell (Views.own 0 rfl) h.2 | exact Views.oneCell (Views.own 1 rfl) h.2 | exact Views.oneCell (Views.own 2 rfl) h.2 | exact Views.oneCell (Views.own 3 rfl) h.2 | exact Views.oneCell (Views.own 4 rfl) h.2 | exact Views.oneCell (Views.own 5 rfl) h.2 | exact Views.oneCell (by assumption) h.2) 2 rfl ?_)
          | (refine op_storeC (o := 1) h rfl rfl K.sz_S_disk_write (by first | rfl | assumption | exact Views.oneCell (Views.own 0 rfl) h.2 | exact Views.oneCell (Views.own 1 rfl) h.2 | exact Views.oneCell (Views.own 2 rfl) h.2 | exact Views.oneCell (Views.own 3 rfl) h.2 | exact Views.oneCell (Views.own 4 rfl) h.2 | exact Views.oneCell (Views.own 5 rfl) h.2 | exact Views.oneCell (by assumption) h.2) 3 rfl ?_)
          | (refine op_storeC (o := 1) h rfl rfl K.sz_S_disk_write (by first | rfl | assumption | exact Views.oneCell (Views.own 0 rfl) h.2 | exact Views.oneCell (Views.own 1 rfl) h.2 | exact Views.oneCell (Views.own 2 rfl) h.2 | exact Views.oneCell (Views.own 3 rfl) h.2 | exact Views.oneCell (Views.own 4 rfl) h.2 | exact Views.oneCell (Views.own 5 rfl) h.2 | exact Views.oneCell (by assumption) h.2) 4 rfl ?_)
          | (refine op_storeC (o := 1) h rfl rfl K.sz_S_disk_write (by first | rfl | assumption | exact Views.oneCell (Views.own 0 rfl) h.2 | exact Views.oneCell (Views.own 1 rfl) h.2 | exact Views.oneCell (Views.own 2 rfl) h.2 | exact Views.oneCell (Views.own 3 rfl) h.2 | exact Views.oneCell (Views.own 4 rfl) h.2 | exact Views.oneCell (Views.own 5 rfl) h.2 | exact Views.oneCell (by assumption) h.2) 5 rfl ?_)
          | (refine op_storeC (o := 1) h rfl rfl K.sz_S_disk_write (by first | rfl | assumption | exact Views.oneCell (Views.own 0 rfl) h.2 | exact Views.oneCell (Views.own 1 rfl) h.2 | exact Views.oneCell (Views.own 2 rfl) h.2 | exact Views.oneCell (Views.own 3 rfl) h.2 | exact Views.oneCell (Views.own 4 rfl) h.2 | exact Views.oneCell (Views.own 5 rfl) h.2 | exact Views.oneCell (by assumption) h.2) 6 rfl ?_)
     clear hD h a w; intro a w h
     (try simp only [List.set_cons_zero, List.set_cons_succ] at h)
     refine d_pay (Paid.nil) (fun hD => ?_)
     refine d_done (by kernel_rfl) ?_
     clear hD
     refine c_then ?_
     refine c_seq ?_
     refine c_seq (c_region ?_)
     have e3 : ∀ (q : D.off = false), D.write k p = { D.act with wet := D.act.wet ++ [(k, B64.of p)] } := fun q => by rw [Dk.write, if_neg (by simp [q]), (Dk.act_ok hok hac).2.2]
     refine wv h (r_move h rfl) rfl ?_
     clear h a w; intro a w h
     refine wv h (r_not h rfl) rfl ?_
     clear h a w; intro a w h
     refine wnil (c_then ?_)
     first
      | refine c_condD h rfl (fun ht3 => ?_) (fun ht3 => ?_)
      | refine c_condP h rfl (by first | (simp only [Bool.and_eq_true, Bool.or_eq_true, Bool.not_eq_true', decide_eq_true_eq, decide_eq_false_iff_not, ne_eq, Bool.not_eq_eq_eq_not, Bool.not_true, beq_iff_eq, bne_iff_ne]; exact Iff.rfl) | exact Iff.rfl) (fun ht3 => ?_) (fun ht3 => ?_)
     ·
      as_aux_lemma =>
       refine c_seq (c_region ?_)
       refine wv h (r_assign h rfl) rfl ?_
       clear h a w; intro a w h
       refine wnil (c_then ?_)
       refine c_ret ?_
       exact ret1 h rfl rfl ⟨(), by simpa using ht3, by rw [e3 ht2]; exact DiskI_shut (vs := vs2) (vw := v44) (h.2.rid 3), trivial⟩
     ·
      refine c_skip ?_
      refine c_then ?_
      refine c_seq (c_region ?_)
      refine wv h (r_assign h rfl) rfl ?_
      clear h a w; intro a w h
      refine wnil (c_then ?_)
      refine c_ret ?_
      exact ret1 h rfl rfl ⟨(), by simpa using ht3, by rw [e3 ht2]; exact DiskI_shut (vs := vs2) (vw := v44) (h.2.rid 3), trivial⟩
   ·
    have e4 : D.off = true := by simpa using ht2
    have e5 : D.act = D := by rw [Dk.act, if_pos e4]
    have e6 : D.goes = false := by simp [Dk.goes, e4]
    rw [e6] at h
    refine c_skip ?_
    refine c_then ?_
    refine c_seq ?_
    refine c_seq (c_region ?_)
    have e3 : ∀ (q : D.off = false), D.write k p = { D.act with wet := D.act.wet ++ [(k, B64.of p)] } := fun q => by rw [Dk.write, if_neg (by simp [q]), (Dk.act_ok hok hac).2.2]
    refine wv h (r_move h rfl) rfl ?_
    clear h a w; intro a w h
    refine wv h (r_not h rfl) rfl ?_
    clear h a w; intro a w h
    refine wnil (c_then ?_)
    first
     | refine c_condD h rfl (fun ht4 => ?_) (fun ht4 => ?_)
     | refine c_condP h rfl (by first | (simp only [Bool.and_eq_true, Bool.or_eq_true, Bool.not_eq_true', decide_eq_true_eq, decide_eq_false_iff_not, ne_eq, Bool.not_eq_eq_eq_not, Bool.not_true, beq_iff_eq, bne_iff_ne]; exact Iff.rfl) | exact Iff.rfl) (fun ht4 => ?_) (fun ht4 => ?_)
    ·
     as_aux_lemma =>
      refine c_seq (c_region ?_)
      refine wv h (r_assign h rfl) rfl ?_
      clear h a w; intro a w h
      refine wnil (c_then ?_)
      refine c_ret ?_
      rw [e5] at h
      exact ret1 h rfl rfl ⟨(), by rw [e6]; rfl, by rw [Dk.write, if_pos e4]; exact h.2, trivial⟩
    ·
     refine c_skip ?_
     refine c_then ?_
     refine c_seq (c_region ?_)
     refine wv h (r_assign h rfl) rfl ?_
     clear h a w; intro a w h
     refine wnil (c_then ?_)
     refine c_ret ?_
     simp at ht4

theorem cellsW_get {l : List (Nat × B64)} {i : Nat} (h : i < l.length) : ∃ q, l[i]? = some q := ⟨l[i], by simp [h]⟩

theorem disk_keep (s w : World) (b : Nat) (D : Dk) (f : FuncId) (cs : List Value) (wants : Nat → Bool) (F : List HItem) (hok : D.ok) (hgo : isGo P f = true)
    (hW : ∀ (G : List HItem) (i : Nat) (w' : World), i < D.wet.length → Sat s w' (G ++ F) → Calls P f (#[] ++ [Value.int .i64 (i : Int)].toArray ++ cs.toArray) w' (One s (.bool (wants i)) (G ++ F))) (hs : Sat s w (DiskI b D :: F)) :
    Calls P n_disk_Disk_keep #[dp b, .func (.func f) #[] cs.toArray] w (Ret s (fun _ : Unit => .tuple #[]) (fun _ => DiskI b (D.keep wants) :: F) (fun _ => True)) := by
  have hs1 := hs
  clear hs
  obtain ⟨vs, vw, hs⟩ := DiskI_open hs1
  clear hs1
  obtain ⟨hq1, hq2, -, -, hq5, hq6⟩ := hok
  refine enter K.fn_disk_Disk_keep rfl K.nt_disk_Disk_keep rfl hs ?_
  clear hs w; intro a w h
  refine c_seq ?_
  refine c_seq (c_region ?_)
  refine wv h (r_move h rfl) rfl ?_
  clear h a w; intro a w h
  refine wv h (r_nilCheck h rfl) rfl ?_
  clear h a w; intro a w h
  refine wv h (r_fieldAddr h 1 rfl K.u_disk_Disk rfl K.sz_S_disk_write rfl rfl) rfl ?_
  clear h a w; intro a w h
  first
    | (refine wv h (r_ldN h rfl K.u_S_disk_write rfl 0 rfl rfl) rfl ?_)
    | (refine wv h (r_ldN h rfl K.u_S_disk_write rfl 1 rfl rfl) rfl ?_)
    | (refine wv h (r_ldN h rfl K.u_S_disk_write rfl 2 rfl rfl) rfl ?_)
    | (refine wv h (r_ldN h rfl K.u_S_disk_write rfl 3 rfl rfl) rfl ?_)
    | (refine wv h (r_ldN h rfl K.u_S_disk_write rfl 4 rfl rfl) rfl ?_)
    | (refine wv h (r_ldN h rfl K.u_S_disk_write rfl 5 rfl rfl) rfl ?_)
    | (refine wv h (r_ldN h rfl K.u_S_disk_write rfl 6 rfl rfl) rfl ?_)
    | (refine wv h (r_ldC (o := 1) h rfl K.u_S_disk_write rfl 0 rfl) rfl ?_)
    | (refine wv h (r_ldC (o := 1) h rfl K.u_S_disk_write rfl 1 rfl) rfl ?_)
    | (refine wv h (r_ldC (o := 1) h rfl K.u_S_disk_write rfl 2 rfl) rfl ?_)
    | (refine wv h (r_ldC (o := 1) h rfl K.u_S_disk_write rfl 3 rfl) rfl ?_)
    | (refine wv h (r_ldC (o := 1) h rfl K.u_S_disk_write rfl 4 rfl) rfl ?_)
    | (refine wv h (r_ldC (o := 1) h rfl K.u_S_disk_write rfl 5 rfl) rfl ?_)
    | (refine wv h (r_ldC (o := 1) h rfl K.u_S_disk_write rfl 6 rfl) rfl ?_)
    | (refine wv h (r_load h rfl K.u_S_disk_write rfl 0 rfl rfl) rfl ?_)
    | (refine wv h (r_load h rfl K.u_S_disk_write rfl 1 rfl rfl) rfl ?_)
    | (refine wv h (r_load h rfl K.u_S_disk_write rfl 2 rfl rfl) rfl ?_)
    | (refine wv h (r_load h rfl K.u_S_disk_write rfl 3 rfl rfl) rfl ?_)
    | (refine wv h (r_load h rfl K.u_S_disk_write rfl 4 rfl rfl) rfl ?_)
    | (refine wv h (r_load h rfl K.u_S_disk_write rfl 5 rfl rfl) rfl ?_)
    | (refine wv h (r_load1 h rfl K.u_S_disk_write rfl (by assumption)) rfl ?_)
  clear h a w; intro a w h
  refine wv h (r_lenV h rfl K.u_S_disk_write (by first | exact Views.own 0 rfl | exact Views.own 1 rfl | exact Views.own 2 rfl | exact Views.own 3 rfl | exact Views.own 4 rfl | exact Views.own 5 rfl | assumption | exact Views.of_drop 1 (by assumption) | exact Views.of_drop 2 (by assumption) | exact Views.of_drop 3 (by assumption) | exact Views.of_drop 4 (by assumption) | exact Views.of_drop 5 (by assumption) | exact Views.of_drop 6 (by assumption) | exact Views.of_drop 7 (by assumption) | exact Views.of_drop 8 (by assumption) | exact Views.of_drop 9 (by assumption) | exact Views.of_drop 10 (by assumption) | exact Views.of_drop 11 (by assumption) | exact Views.of_drop 12 (by assumption))) rfl ?_
  clear h a w; intro a w h
  refine wv h (r_move h rfl) rfl ?_
  clear h a w; intro a w h
  refine wnil (c_then ?_)
  refine c_block ?_
  refine c_loopX h (X := Nat × List B64) (fun x => [(0, dp b), (1, .func (.func f) #[] cs.toArray), (9, vw), (10, .int .i64 (D.wet.length : Int)), (11, .int .i64 (x.1 : Int))])
    (fun x => DiskL b vs vw { D with safe := x.2 } ++ F) (fun x => x.1 ≤ D.wet.length ∧ x.2.length = D.safe.length ∧ Dk.keepL wants x.1 (D.wet.drop x.1) x.2 = Dk.keepL wants 0 D.wet D.safe) (fun x => D.wet.length - x.1) (0, D.safe) (h.keep [0, 1, 9, 10, 11]) ⟨Nat.zero_le _, rfl, rfl⟩ ?_
  clear h a w; intro x a w hx h
  obtain ⟨i, S⟩ := x
  obtain ⟨hx1, hx2, hx3⟩ := hx
  dsimp only at hx1 hx2 hx3 h
  as_aux_lemma =>
   refine c_seq (c_region ?_)
   refine wv h (r_bin h rfl rfl (B.lss_int)) rfl ?_
   clear h a w; intro a w h
   refine wnil (c_then ?_)
   refine c_seq ?_
   first
    | refine c_condD h rfl (fun ht1 => ?_) (fun ht1 => ?_)
    | refine c_condP h rfl (by first | (simp only [Bool.and_eq_true, Bool.or_eq_true, Bool.not_eq_true', decide_eq_true_eq, decide_eq_false_iff_not, ne_eq, Bool.not_eq_eq_eq_not, Bool.not_true, beq_iff_eq, bne_iff_ne]; exact Iff.rfl) | exact Iff.rfl) (fun ht1 => ?_) (fun ht1 => ?_)
   ·
    obtain ⟨q, hq⟩ := cellsW_get (l := D.wet) (i := i) (by omega)
    have hql : q.1 < S.length := by rw [hx2]; exact hq1 q (List.mem_of_getElem? hq)
    rw [List.drop_eq_getElem_cons (by omega), show D.wet[i] = q from by rw [List.getElem?_eq_getElem (by omega)] at hq; simpa using hq, Dk.keepL] at hx3
    refine c_skip ?_
    refine c_then ?_
    refine c_seq ?_
    refine c_block ?_
    refine c_seq (c_region ?_)
    refine wv h (r_move h rfl) rfl ?_
    clear h a w; intro a w h
    refine wv h (r_elP h rfl rfl K.u_S_disk_write K.sz_disk_write (by first | exact Views.own 0 rfl | exact Views.own 1 rfl | exact Views.own 2 rfl | exact Views.own 3 rfl | exact Views.own 4 rfl | exact Views.own 5 rfl | assumption | exact Views.of_drop 1 (by assumption) | exact Views.of_drop 2 (by assumption) | exact Views.of_drop 3 (by assumption) | exact Views.of_drop 4 (by assumption) | exact Views.of_drop 5 (by assumption) | exact Views.of_drop 6 (by assumption) | exact Views.of_drop 7 (by assumption) | exact Views.of_drop 8 (by assumption) | exact Views.of_drop 9 (by assumption) | exact Views.of_drop 10 (by assumption) | exact Views.of_drop 11 (by assumption) | exact Views.of_drop 12 (by assumption)) (by first | omega | (simp; done)) (by first | omega | (simp only [List.length_cons, List.length_nil]; omega) | (simp; done) | (simp; omega))) rfl ?_
    clear h a w; intro a w h
    first
        | (refine wv h (r_elM h rfl K.u_disk_write rfl K.sz_disk_write rfl (by first | exact Views.own 0 rfl | exact Views.own 1 rfl | exact Views.own 2 rfl | exact Views.own 3 rfl | exact Views.own 4 rfl | exact Views.own 5 rfl | assumption | exact Views.of_drop 1 (by assumption) | exact Views.of_drop 2 (by assumption) | exact Views.of_drop 3 (by assumption) | exact Views.of_drop 4 (by assumption) | exact Views.of_drop 5 (by assumption) | exact Views.of_drop 6 (by assumption) | exact Views.of_drop 7 (by assumption) | exact Views.of_drop 8 (by assumption) | exact Views.of_drop 9 (by assumption) | exact Views.of_drop 10 (by assumption) | exact Views.of_drop 11 (by assumption) | exact Views.of_drop 12 (by assumption)) (by assumption)) rfl ?_)
        | (refine wv h (r_elMd h rfl K.u_disk_write rfl K.sz_disk_write rfl (by first | exact Views.own 0 rfl | exact Views.own 1 rfl | exact Views.own 2 rfl | exact Views.own 3 rfl | exact Views.own 4 rfl | exact Views.own 5 rfl | assumption | exact Views.of_drop 1 (by assumption) | exact Views.of_drop 2 (by assumption) | exact Views.of_drop 3 (by assumption) | exact Views.of_drop 4 (by assumption) | exact Views.of_drop 5 (by assumption) | exact Views.of_drop 6 (by assumption) | exact Views.of_drop 7 (by assumption) | exact Views.of_drop 8 (by assumption) | exact Views.of_drop 9 (by assumption) | exact Views.of_drop 10 (by assumption) | exact Views.of_drop 11 (by assumption) | exact Views.of_drop 12 (by assumption)) (by first | omega | (simp only [List.length_cons, List.length_nil]; omega) | (simp; done) | (simp; omega))) rfl ?_)
    clear h a w; intro a w h
    refine wl rfl (op_alloc h K.z_disk_write rfl ?_)
    clear h a w; intro b5 a w h
    refine wv h (r_assign h rfl) rfl ?_
    clear h a w; intro a w h
    first
        | (refine wl rfl (op_stA h rfl rfl K.sz_disk_write (by first | exact Row.len _ | rfl | assumption | (simp; done) | (simp; omega) | omega) (by first | exact Row.one _ | exact bs_one _ | assumption | (simp; done) | (simp; (repeat' apply And.intro) <;> first | rfl | assumption)) 0 rfl (by first | rfl | assumption | (simp; done) | (simp; omega) | omega) ?_))
        | (refine wl rfl (op_stA h rfl rfl K.sz_disk_write (by first | exact Row.len _ | rfl | assumption | (simp; done) | (simp; omega) | omega) (by first | exact Row.one _ | exact bs_one _ | assumption | (simp; done) | (simp; (repeat' apply And.intro) <;> first | rfl | assumption)) 1 rfl (by first | rfl | assumption | (simp; done) | (simp; omega) | omega) ?_))
        | (refine wl rfl (op_stA h rfl rfl K.sz_disk_write (by first | exact Row.len _ | rfl | assumption | (simp; done) | (simp; omega) | omega) (by first | exact Row.one _ | exact bs_one _ | assumption | (simp; done) | (simp; (repeat' apply And.intro) <;> first | rfl | assumption)) 2 rfl (by first | rfl | assumption | (simp; done) | (simp; omega) | omega) ?_))
        | (refine wl rfl (op_stA h rfl rfl K.sz_disk_write (by first | exact Row.len _ | rfl | assumption | (simp; done) | (simp; omega) | omega) (by first | exact Row.one _ | exact bs_one _ | assumption | (simp; done) | (simp; (repeat' apply And.intro) <;> first | rfl | assumption)) 3 rfl (by first | rfl | assumption | (simp; done) | (simp; omega) | omega) ?_))
        | (refine wl rfl (op_stA h rfl rfl K.sz_disk_write (by first | exact Row.len _ | rfl | assumption | (simp; done) | (simp; omega) | omega) (by first | exact Row.one _ | exact bs_one _ | assumption | (simp; done) | (simp; (repeat' apply And.intro) <;> first | rfl | assumption)) 4 rfl (by first | rfl | assumption | (simp; done) | (simp; omega) | omega) ?_))
        | (refine wl rfl (op_stA h rfl rfl K.sz_disk_write (by first | exact Row.len _ | rfl | assumption | (simp; done) | (simp; omega) | omega) (by first | exact Row.one _ | exact bs_one _ | assumption | (simp; done) | (simp; (repeat' apply And.intro) <;> first | rfl | assumption)) 5 rfl (by first | rfl | assumption | (simp; done) | (simp; omega) | omega) ?_))
    clear h a w; intro a w h
    (try simp only [List.set_cons_zero, List.set_cons_succ] at h)
    refine wnil (c_then ?_)
    refine c_seq (c_region ?_)
    refine wv h (r_move h rfl) rfl ?_
    clear h a w; intro a w h
    refine wv h (r_move h rfl) rfl ?_
    clear h a w; intro a w h
    refine wl rfl (op_callV h rfl rfl hgo (hW (Blk b5 (.cells ⟨cellsW q⟩ t_disk_write) :: DiskL b vs vw { D with safe := S }) i _ (by omega) h.2) rfl ?_)
    clear h a w; intro x a w hx h
    refine wnil (c_then ?_)
    first
     | refine c_condD h rfl (fun ht2 => ?_) (fun ht2 => ?_)
     | refine c_condP h rfl (by first | (simp only [Bool.and_eq_true, Bool.or_eq_true, Bool.not_eq_true', decide_eq_true_eq, decide_eq_false_iff_not, ne_eq, Bool.not_eq_eq_eq_not, Bool.not_true, beq_iff_eq, bne_iff_ne]; exact Iff.rfl) | exact Iff.rfl) (fun ht2 => ?_) (fun ht2 => ?_)
    ·
     as_aux_lemma =>
      refine c_tail 9 K.mixed (by kernel_rfl) h ?_
      clear h a w; intro a w h
      refine yv h (r_move h rfl) rfl ?_
      clear h a; intro a h
      refine yv h (r_nilCheck h rfl) rfl ?_
      clear h a; intro a h
      refine yv h (r_fieldAddr0 h rfl K.u_disk_Disk rfl K.sz_S_A64_uint8 rfl rfl) rfl ?_
      clear h a; intro a h
      first
            | (refine yv h (r_ldN h rfl K.u_S_A64_uint8 rfl 0 rfl rfl) rfl ?_)
            | (refine yv h (r_ldN h rfl K.u_S_A64_uint8 rfl 1 rfl rfl) rfl ?_)
            | (refine yv h (r_ldN h rfl K.u_S_A64_uint8 rfl 2 rfl rfl) rfl ?_)
            | (refine yv h (r_ldN h rfl K.u_S_A64_uint8 rfl 3 rfl rfl) rfl ?_)
            | (refine yv h (r_ldN h rfl K.u_S_A64_uint8 rfl 4 rfl rfl) rfl ?_)
            | (refine yv h (r_ldN h rfl K.u_S_A64_uint8 rfl 5 rfl rfl) rfl ?_)
            | (refine yv h (r_ldN h rfl K.u_S_A64_uint8 rfl 6 rfl rfl) rfl ?_)
            | (refine yv h (r_ldC (o := 0) h rfl K.u_S_A64_uint8 rfl 0 rfl) rfl ?_)
            | (refine yv h (r_ldC (o := 0) h rfl K.u_S_A64_uint8 rfl 1 rfl) rfl ?_)
            | (refine yv h (r_ldC (o := 0) h rfl K.u_S_A64_uint8 rfl 2 rfl) rfl ?_)
            | (refine yv h (r_ldC (o := 0) h rfl K.u_S_A64_uint8 rfl 3 rfl) rfl ?_)
            | (refine yv h (r_ldC (o := 0) h rfl K.u_S_A64_uint8 rfl 4 rfl) rfl ?_)
            | (refine yv h (r_ldC (o := 0) h rfl K.u_S_A64_uint8 rfl 5 rfl) rfl ?_)
            | (refine yv h (r_ldC (o := 0) h rfl K.u_S_A64_uint8 rfl 6 rfl) rfl ?_)
            | (refine yv h (r_load h rfl K.u_S_A64_uint8 rfl 0 rfl rfl) rfl ?_)
            | (refine yv h (r_load h rfl K.u_S_A64_uint8 rfl 1 rfl rfl) rfl ?_)
            | (refine yv h (r_load h rfl K.u_S_A64_uint8 rfl 2 rfl rfl) rfl ?_)
            | (refine yv h (r_load h rfl K.u_S_A64_uint8 rfl 3 rfl rfl) rfl ?_)
            | (refine yv h (r_load h rfl K.u_S_A64_uint8 rfl 4 rfl rfl) rfl ?_)
            | (refine yv h (r_load h rfl K.u_S_A64_uint8 rfl 5 rfl rfl) rfl ?_)
            | (refine yv h (r_load1 h rfl K.u_S_A64_uint8 rfl (by assumption)) rfl ?_)
      clear h a; intro a h
      refine yv h (r_fieldAddr0 h rfl K.u_disk_write rfl K.sz_int rfl rfl) rfl ?_
      clear h a; intro a h
      first
            | (refine yv h (r_ldN h rfl K.u_int rfl 0 rfl rfl) rfl ?_)
            | (refine yv h (r_ldN h rfl K.u_int rfl 1 rfl rfl) rfl ?_)
            | (refine yv h (r_ldN h rfl K.u_int rfl 2 rfl rfl) rfl ?_)
            | (refine yv h (r_ldN h rfl K.u_int rfl 3 rfl rfl) rfl ?_)
            | (refine yv h (r_ldN h rfl K.u_int rfl 4 rfl rfl) rfl ?_)
            | (refine yv h (r_ldN h rfl K.u_int rfl 5 rfl rfl) rfl ?_)
            | (refine yv h (r_ldN h rfl K.u_int rfl 6 rfl rfl) rfl ?_)
            | (refine yv h (r_ldC (o := 0) h rfl K.u_int rfl 0 rfl) rfl ?_)
            | (refine yv h (r_ldC (o := 0) h rfl K.u_int rfl 1 rfl) rfl ?_)
            | (refine yv h (r_ldC (o := 0) h rfl K.u_int rfl 2 rfl) rfl ?_)
            | (refine yv h (r_ldC (o := 0) h rfl K.u_int rfl 3 rfl) rfl ?_)
            | (refine yv h (r_ldC (o := 0) h rfl K.u_int rfl 4 rfl) rfl ?_)
            | (refine yv h (r_ldC (o := 0) h rfl K.u_int rfl 5 rfl) rfl ?_)
            | (refine yv h (r_ldC (o := 0) h rfl K.u_int rfl 6 rfl) rfl ?_)
            | (refine yv h (r_load h rfl K.u_int rfl 0 rfl rfl) rfl ?_)
            | (refine yv h (r_load h rfl K.u_int rfl 1 rfl rfl) rfl ?_)
            | (refine yv h (r_load h rfl K.u_int rfl 2 rfl rfl) rfl ?_)
            | (refine yv h (r_load h rfl K.u_int rfl 3 rfl rfl) rfl ?_)
            | (refine yv h (r_load h rfl K.u_int rfl 4 rfl rfl) rfl ?_)
            | (refine yv h (r_load h rfl K.u_int rfl 5 rfl rfl) rfl ?_)
            | (refine yv h (r_load1 h rfl K.u_int rfl (by assumption)) rfl ?_)
      clear h a; intro a h
      refine yv h (r_fieldAddr h 1 rfl K.u_disk_write rfl K.sz_A64_uint8 rfl rfl) rfl ?_
      clear h a; intro a h
      first
            | (refine yv h (r_ldF8 h rfl K.u_A64_uint8 rfl K.sz_A64_uint8 0 rfl rfl (by first | rfl | assumption | (simp; done) | (simp; omega) | omega)) rfl ?_)
            | (refine yv h (r_ldF8 h rfl K.u_A64_uint8 rfl K.sz_A64_uint8 1 rfl rfl (by first | rfl | assumption | (simp; done) | (simp; omega) | omega)) rfl ?_)
            | (refine yv h (r_ldF8 h rfl K.u_A64_uint8 rfl K.sz_A64_uint8 2 rfl rfl (by first | rfl | assumption | (simp; done) | (simp; omega) | omega)) rfl ?_)
            | (refine yv h (r_ldF8 h rfl K.u_A64_uint8 rfl K.sz_A64_uint8 3 rfl rfl (by first | rfl | assumption | (simp; done) | (simp; omega) | omega)) rfl ?_)
            | (refine yv h (r_ldF8 h rfl K.u_A64_uint8 rfl K.sz_A64_uint8 4 rfl rfl (by first | rfl | assumption | (simp; done) | (simp; omega) | omega)) rfl ?_)
            | (refine yv h (r_ldF8 h rfl K.u_A64_uint8 rfl K.sz_A64_uint8 5 rfl rfl (by first | rfl | assumption | (simp; done) | (simp; omega) | omega)) rfl ?_)
            | (refine yv h (r_ldH8 h rfl K.u_A64_uint8 rfl K.sz_A64_uint8 0 rfl (by first | rfl | assumption | (simp; done) | (simp; omega) | omega)) rfl ?_)
            | (refine yv h (r_ldH8 h rfl K.u_A64_uint8 rfl K.sz_A64_uint8 1 rfl (by first | rfl | assumption | (simp; done) | (simp; omega) | omega)) rfl ?_)
            | (refine yv h (r_ldH8 h rfl K.u_A64_uint8 rfl K.sz_A64_uint8 2 rfl (by first | rfl | assumption | (simp; done) | (simp; omega) | omega)) rfl ?_)
            | (refine yv h (r_ldH8 h rfl K.u_A64_uint8 rfl K.sz_A64_uint8 3 rfl (by first | rfl | assumption | (simp; done) | (simp; omega) | omega)) rfl ?_)
            | (refine yv h (r_ldH8 h rfl K.u_A64_uint8 rfl K.sz_A64_uint8 4 rfl (by first | rfl | assumption | (simp; done) | (simp; omega) | omega)) rfl ?_)
            | (refine yv h (r_ldH8 h rfl K.u_A64_uint8 rfl K.sz_A64_uint8 5 rfl (by first | rfl | assumption | (simp; done) | (simp; omega) | omega)) rfl ?_)
            | (refine yv h (r_loadCA h rfl K.u_A64_uint8 rfl K.sz_A64_uint8 (by assumption) (by first | rfl | assumption | (simp; done) | (simp; omega) | omega)) rfl ?_)
      clear h a; intro a h
      refine yv h (r_elP h rfl rfl K.u_S_A64_uint8 K.sz_A64_uint8 (by first | exact Views.own 0 rfl | exact Views.own 1 rfl | exact Views.own 2 rfl | exact Views.own 3 rfl | exact Views.own 4 rfl | exact Views.own 5 rfl | assumption | exact Views.of_drop 1 (by assumption) | exact Views.of_drop 2 (by assumption) | exact Views.of_drop 3 (by assumption) | exact Views.of_drop 4 (by assumption) | exact Views.of_drop 5 (by assumption) | exact Views.of_drop 6 (by assumption) | exact Views.of_drop 7 (by assumption) | exact Views.of_drop 8 (by assumption) | exact Views.of_drop 9 (by assumption) | exact Views.of_drop 10 (by assumption) | exact Views.of_drop 11 (by assumption) | exact Views.of_drop 12 (by assumption)) (by first | omega | (simp; done)) (by first | omega | (simp only [List.length_cons, List.length_nil]; omega) | (simp; done) | (simp; omega))) rfl ?_
      clear h a; intro a h
      refine ynil ?_
      refine wl rfl (op_storeR (cells := cells8) (u := q.2) h rfl rfl K.sz_A64_uint8 2 rfl hql ?_)
      clear h a w; intro a w h
      refine wnil ?_
      refine b_normal ?_
      refine c_then ?_
      refine c_region ?_
      refine wv h (r_bin h rfl rfl (B.add_i64 (by omega) (by omega))) rfl ?_
      clear h a w; intro a w h
      refine wv h (r_move h rfl) rfl ?_
      clear h a w; intro a w h
      refine wnil ?_
      refine ⟨(i + 1, S.set q.1 q.2), h.mem (fun z => z.drop 1) |>.keep [0, 1, 9, 10, 11], ⟨by show i + 1 ≤ _; omega, by show (S.set q.1 q.2).length = _; simp [hx2], ?_⟩, by show D.wet.length - (i + 1) < D.wet.length - i; omega⟩
      rw [if_pos (by simpa using ht2)] at hx3; exact hx3
    ·
     refine c_skip ?_
     refine b_normal ?_
     refine c_then ?_
     refine c_region ?_
     refine wv h (r_bin h rfl rfl (B.add_i64 (by omega) (by omega))) rfl ?_
     clear h a w; intro a w h
     refine wv h (r_move h rfl) rfl ?_
     clear h a w; intro a w h
     refine wnil ?_
     refine ⟨(i + 1, S), h.mem (fun z => z.drop 1) |>.keep [0, 1, 9, 10, 11], ⟨by show i + 1 ≤ _; omega, hx2, ?_⟩, by show D.wet.length - (i + 1) < D.wet.length - i; omega⟩
     rw [if_neg (by simpa using ht2)] at hx3; exact hx3
   ·
    obtain rfl : i = D.wet.length := by omega
    rw [List.drop_length, Dk.keepL] at hx3
    subst hx3
    refine c_exit ?_
    refine e_then ?_
    refine e_then ?_
    refine e_here ?_
    refine c_then ?_
    refine c_region ?_
    refine wv h (r_move h rfl) rfl ?_
    clear h a w; intro a w h
    refine wv h (r_nilCheck h rfl) rfl ?_
    clear h a w; intro a w h
    refine wv h (r_fieldAddr h 1 rfl K.u_disk_Disk rfl K.sz_S_disk_write rfl rfl) rfl ?_
    clear h a w; intro a w h
    first
        | (refine wl rfl (op_storeN h rfl rfl K.sz_S_disk_write (by first | rfl | assumption | exact Views.oneCell (Views.own 0 rfl) h.2 | exact Views.oneCell (Views.own 1 rfl) h.2 | exact Views.oneCell (Views.own 2 rfl) h.2 | exact Views.oneCell (Views.own 3 rfl) h.2 | exact Views.oneCell (Views.own 4 rfl) h.2 | exact Views.oneCell (Views.own 5 rfl) h.2 | exact Views.oneCell (by assumption) h.2) 0 rfl rfl ?_))
        | (refine wl rfl (op_storeN h rfl rfl K.sz_S_disk_write (by first | rfl | assumption | exact Views.oneCell (Views.own 0 rfl) h.2 | exact Views.oneCell (Views.own 1 rfl) h.2 | exact Views.oneCell (Views.own 2 rfl) h.2 | exact Views.oneCell (Views.own 3 rfl) h.2 | exact Views.oneCell (Views.own 4 rfl) h.2 | exact Views.oneCell (Views.own 5 rfl) h.2 | exact Views.oneCell (by assumption) h.2) 1 rfl rfl ?_))
        | (refine wl rfl (op_storeN h rfl rfl K.sz_S_disk_write (by first | rfl | assumption | exact Views.oneCell (Views.own 0 rfl) h.2 | exact Views.oneCell (Views.own 1 rfl) h.2 | exact Views.oneCell (Views.own 2 rfl) h.2 | exact Views.oneCell (Views.own 3 rfl) h.2 | exact Views.oneCell (Views.own 4 rfl) h.2 | exact Views.oneCell (Views.own 5 rfl) h.2 | exact Views.oneCell (by assumption) h.2) 2 rfl rfl ?_))
        | (refine wl rfl (op_storeN h rfl rfl K.sz_S_disk_write (by first | rfl | assumption | exact Views.oneCell (Views.own 0 rfl) h.2 | exact Views.oneCell (Views.own 1 rfl) h.2 | exact Views.oneCell (Views.own 2 rfl) h.2 | exact Views.oneCell (Views.own 3 rfl) h.2 | exact Views.oneCell (Views.own 4 rfl) h.2 | exact Views.oneCell (Views.own 5 rfl) h.2 | exact Views.oneCell (by assumption) h.2) 3 rfl rfl ?_))
        | (refine wl rfl (op_storeN h rfl rfl K.sz_S_disk_write (by first | rfl | assumption | exact Views.oneCell (Views.own 0 rfl) h.2 | exact Views.oneCell (Views.own 1 rfl) h.2 | exact Views.oneCell (Views.own 2 rfl) h.2 | exact Views.oneCell (Views.own 3 rfl) h.2 | exact Views.oneCell (Views.own 4 rfl) h.2 | exact Views.oneCell (Views.own 5 rfl) h.2 | exact Views.oneCell (by assumption) h.2) 4 rfl rfl ?_))
        | (refine wl rfl (op_storeN h rfl rfl K.sz_S_disk_write (by first | rfl | assumption | exact Views.oneCell (Views.own 0 rfl) h.2 | exact Views.oneCell (Views.own 1 rfl) h.2 | exact Views.oneCell (Views.own 2 rfl) h.2 | exact Views.oneCell (Views.own 3 rfl) h.2 | exact Views.oneCell (Views.own 4 rfl) h.2 | exact Views.oneCell (Views.own 5 rfl) h.2 | exact Views.oneCell (by assumption) h.2) 5 rfl rfl ?_))
        | (refine wl rfl (op_storeN h rfl rfl K.sz_S_disk_write (by first | rfl | assumption | exact Views.oneCell (Views.own 0 rfl) h.2 | exact Views.oneCell (Views.own 1 rfl) h.2 | exact Views.oneCell (Views.own 2 rfl) h.2 | exact Views.oneCell (Views.own 3 rfl) h.2 | exact Views.oneCell (Views.own 4 rfl) h.2 | exact Views.oneCell (Views.own 5 rfl) h.2 | exact Views.oneCell (by assumption) h.2) 6 rfl rfl ?_))
        | (refine wl rfl (op_storeC (o := 1) h rfl rfl K.sz_S_disk_write (by first | rfl | assumption | exact Views.oneCell (Views.own 0 rfl) h.2 | exact Views.oneCell (Views.own 1 rfl) h.2 | exact Views.oneCell (Views.own 2 rfl) h.2 | exact Views.oneCell (Views.own 3 rfl) h.2 | exact Views.oneCell (Views.own 4 rfl) h.2 | exact Views.oneCell (Views.own 5 rfl) h.2 | exact Views.oneCell (by assumption) h.2) 0 rfl ?_))
        | (refine wl rfl (op_storeC (o := 1) h rfl rfl K.sz_S_disk_write (by first | rfl | assumption | exact Views.oneCell (Views.own 0 rfl) h.2 | exact Views.oneCell (Views.own 1 rfl) h.2 | exact Views.oneCell (Views.own 2 rfl) h.2 | exact Views.oneCell (Views.own 3 rfl) h.2 | exact Views.oneCell (Views.own 4 rfl) h.2 | exact Views.oneCell (Views.own 5 rfl) h.2 | exact Views.oneCell (by assumption) h.2) 1 rfl ?_))
        | (refine wl rfl (op_storeC (o := 1) h rfl rfl K.sz_S_disk_write (by first | rfl | assumption | exact Views.oneCell (Views.own 0 rfl) h.2 | exact Views.oneCell (Views.own 1 rfl) h.2 | exact Views.oneCell (Views.own 2 rfl) h.2 | exact Views.oneCell (Views.own 3 rfl) h.2 | exact Views.oneCell (Views.own 4 rfl) h.2 | exact Views.oneCell (Views.own 5 rfl) h.2 | exact Views.oneCell (by assumption) h.2) 2 rfl ?_))
        | (refine wl rfl (op_storeC (o := 1) h rfl rfl K.sz_S_disk_write (by first | rfl | assumption | exact Views.oneCell (Views.own 0 rfl) h.2 | exact Views.oneCell (Views.own 1 rfl) h.2 | exact Views.oneCell (Views.own 2 rfl) h.2 | exact Views.oneCell (Views.own 3 rfl) h.2 | exact Views.oneCell (Views.own 4 rfl) h.2 | exact Views.oneCell (Views.own 5 rfl) h.2 | exact Views.oneCell (by assumption) h.2) 3 rfl ?_))
        | (refine wl rfl (op_storeC (o := 1) h rfl rfl K.sz_S_disk_write (by first | rfl | assumption | exact Views.oneCell (Views.own 0 rfl) h.2 | exact Views.oneCell (Views.own 1 rfl) h.2 | exact Views.oneCell (Views.own 2 rfl) h.2 | exact Views.oneCell (Views.own 3 rfl) h.2 | exact Views.oneCell (Views.own 4 rfl) h.2 | exact Views.oneCell (Views.own 5 rfl) h.2 | exact Views.oneCell (by assumption) h.2) 4 rfl ?_))
        | (refine wl rfl (op_storeC (o := 1) h rfl rfl K.sz_S_disk_write (by first | rfl | assumption | exact Views.oneCell (Views.own 0 rfl) h.2 | exact Views.oneCell (Views.own 1 rfl) h.2 | exact Views.oneCell (Views.own 2 rfl) h.2 | exact Views.oneCell (Views.own 3 rfl) h.2 | exact Views.oneCell (Views.own 4 rfl) h.2 | exact Views.oneCell (Views.own 5 rfl) h.2 | exact Views.oneCell (by assumption) h.2) 5 rfl ?_))
        | (refine wl rfl (op_storeC (o := 1) h rfl rfl K.sz_S_disk_write (by first | rfl | assumption | exact Views.oneCell (Views.own 0 rfl) h.2 | exact Views.oneCell (Views.own 1 rfl) h.2 | exact Views.oneCell (Views.own 2 rfl) h.2 | exact Views.oneCell (Views.own 3 rfl) h.2 | exact Views.oneCell (Views.own 4 rfl) h.2 | exact Views.oneCell (Views.own 5 rfl) h.2 | exact Views.oneCell (by assumption) h.2) 6 rfl ?_))
    clear h a w; intro a w h
    (try simp only [List.set_cons_zero, List.set_cons_succ] at h)
    refine wnil ?_
    have h2 : Sat s w (OwnM 65 cellsW (.slice none 0 0) [] :: Blk b (.cells ⟨[vs, .slice none 0 0, .int .i64 D.left, .bool D.off, .int .i64 D.acts]⟩ t_disk_Disk) :: OwnM 64 cells8 vs (Dk.keepL wants 0 D.wet D.safe) :: F) := ((h.rid 2).addNilM (size := 65) (cells := cellsW)).2
    exact end0 h rfl ⟨(), rfl, DiskI_shut (vs := vs) (vw := .slice none 0 0) (D := D.keep wants) (h2.perm ((List.Perm.swap _ _ _).trans ((List.Perm.swap _ _ _).cons _))), trivial⟩

theorem disk_Flush_1 (s w : World) (i : Int) (F : List HItem) (hs : Sat s w F) : Calls P n_disk_Disk_Flush_1 #[.int .i64 i] w (One s (.bool true) F) := by
  refine enter K.fn_disk_Disk_Flush_1 rfl K.nt_disk_Disk_Flush_1 rfl hs ?_
  clear hs w; intro a w h
  refine c_seq (c_region ?_)
  refine wv h (r_assign h rfl) rfl ?_
  clear h a w; intro a w h
  refine wnil (c_then ?_)
  refine c_seq (c_region ?_)
  refine wv h (r_assign h rfl) rfl ?_
  clear h a w; intro a w h
  refine wnil (c_then ?_)
  refine c_ret ?_
  exact ret1 h rfl rfl ⟨(), rfl, h.2, trivial⟩

theorem disk_Crash_1 (s w : World) (i b : Nat) (mv : Value) (m : List UInt8) (F : List HItem) (hi : i < 1000000000) (hc : CellsAt F ⟨b, 0, none⟩ [mv]) (hm : ViewsB F mv m) (hs : Sat s w F) :
    Calls P n_disk_Disk_Crash_1 #[.int .i64 (i : Int), .pointer (some ⟨b, 0, none⟩)] w (One s (.bool (Dk.bit m i)) F) := by
  have hml := ViewsB.len_le hm hs
  have hmod : 0 < m.length → i / 8 % m.length < m.length := fun q => Nat.mod_lt _ q
  have e1 : ((i : Int) % 8).toNat = i % 8 := by omega
  have e2 : decide ((0 : Int) < (m.length : Int)) = decide (0 < m.length) := by simp
  refine enter K.fn_disk_Disk_Crash_1 rfl K.nt_disk_Disk_Crash_1 rfl hs ?_
  clear hs w; intro a w h
  refine c_seq (c_region ?_)
  refine wv h (r_assign h rfl) rfl ?_
  clear h a w; intro a w h
  refine wnil (c_then ?_)
  refine c_seq (c_draw K.mixed (by kernel_rfl) h ?_)
  clear h a w; intro a hE
  first
    | (refine qv hE (fun w hw => r_ldN ⟨hE, hw⟩ rfl K.u_S_uint8 rfl 0 rfl rfl) rfl ?_)
    | (refine qv hE (fun w hw => r_ldN ⟨hE, hw⟩ rfl K.u_S_uint8 rfl 1 rfl rfl) rfl ?_)
    | (refine qv hE (fun w hw => r_ldN ⟨hE, hw⟩ rfl K.u_S_uint8 rfl 2 rfl rfl) rfl ?_)
    | (refine qv hE (fun w hw => r_ldN ⟨hE, hw⟩ rfl K.u_S_uint8 rfl 3 rfl rfl) rfl ?_)
    | (refine qv hE (fun w hw => r_ldN ⟨hE, hw⟩ rfl K.u_S_uint8 rfl 4 rfl rfl) rfl ?_)
    | (refine qv hE (fun w hw => r_ldN ⟨hE, hw⟩ rfl K.u_S_uint8 rfl 5 rfl rfl) rfl ?_)
    | (refine qv hE (fun w hw => r_ldN ⟨hE, hw⟩ rfl K.u_S_uint8 rfl 6 rfl rfl) rfl ?_)
    | (refine qv hE (fun w hw => r_load ⟨hE, hw⟩ rfl K.u_S_uint8 rfl 0 rfl rfl) rfl ?_)
    | (refine qv hE (fun w hw => r_load ⟨hE, hw⟩ rfl K.u_S_uint8 rfl 1 rfl rfl) rfl ?_)
    | (refine qv hE (fun w hw => r_load ⟨hE, hw⟩ rfl K.u_S_uint8 rfl 2 rfl rfl) rfl ?_)
    | (refine qv hE (fun w hw => r_load ⟨hE, hw⟩ rfl K.u_S_uint8 rfl 3 rfl rfl) rfl ?_)
    | (refine qv hE (fun w hw => r_load ⟨hE, hw⟩ rfl K.u_S_uint8 rfl 4 rfl rfl) rfl ?_)
    | (refine qv hE (fun w hw => r_load ⟨hE, hw⟩ rfl K.u_S_uint8 rfl 5 rfl rfl) rfl ?_)
    | (refine qv hE (fun w hw => r_load1 ⟨hE, hw⟩ rfl K.u_S_uint8 rfl (by assumption)) rfl ?_)
  clear hE a; intro a hE
  refine qv hE (fun w hw => r_lenB ⟨hE, hw⟩ rfl K.u_S_uint8 (by first | exact ViewsB.own 0 rfl | exact ViewsB.own 1 rfl | exact ViewsB.own 2 rfl | exact ViewsB.own 3 rfl | exact ViewsB.own 4 rfl | exact ViewsB.own 5 rfl | assumption | exact ViewsB.nil _ | exact ViewsB.arr 0 rfl (by first | assumption | rfl | (simp; done)) (Nat.le_refl _) (by simp [maxLen]) | exact ViewsB.arr 1 rfl (by first | assumption | rfl | (simp; done)) (Nat.le_refl _) (by simp [maxLen]) | exact ViewsB.arr 2 rfl (by first | assumption | rfl | (simp; done)) (Nat.le_refl _) (by simp [maxLen]) | exact ViewsB.arr 3 rfl (by first | assumption | rfl | (simp; done)) (Nat.le_refl _) (by simp [maxLen]) | exact ViewsB.arr 4 rfl (by first | assumption | rfl | (simp; done)) (Nat.le_refl _) (by simp [maxLen]) | exact ViewsB.of_drop 1 (by assumption) | exact ViewsB.of_drop 2 (by assumption) | exact ViewsB.of_drop 3 (by assumption) | exact ViewsB.of_drop 4 (by assumption) | exact ViewsB.of_drop 5 (by assumption) | exact ViewsB.of_drop 6 (by assumption) | exact ViewsB.of_drop 7 (by assumption) | exact ViewsB.of_drop 8 (by assumption) | exact ViewsB.of_drop 9 (by assumption) | exact ViewsB.of_drop 10 (by assumption) | exact ViewsB.of_drop 11 (by assumption) | exact ViewsB.of_drop 12 (by assumption) | exact ViewsB.sub (by first | exact ViewsB.own 0 rfl | exact ViewsB.own 1 rfl | exact ViewsB.own 2 rfl | exact ViewsB.own 3 rfl | exact ViewsB.own 4 rfl | exact ViewsB.own 5 rfl | assumption | exact ViewsB.nil _ | exact ViewsB.arr 0 rfl (by first | assumption | rfl | (simp; done)) (Nat.le_refl _) (by simp [maxLen]) | exact ViewsB.arr 1 rfl (by first | assumption | rfl | (simp; done)) (Nat.le_refl _) (by simp [maxLen]) | exact ViewsB.arr 2 rfl (by first | assumption | rfl | (simp; done)) (Nat.le_refl _) (by simp [maxLen]) | exact ViewsB.arr 3 rfl (by first | assumption | rfl | (simp; done)) (Nat.le_refl _) (by simp [maxLen]) | exact ViewsB.arr 4 rfl (by first | assumption | rfl | (simp; done)) (Nat.le_refl _) (by simp [maxLen]) | exact ViewsB.of_drop 1 (by assumption) | exact ViewsB.of_drop 2 (by assumption) | exact ViewsB.of_drop 3 (by assumption) | exact ViewsB.of_drop 4 (by assumption) | exact ViewsB.of_drop 5 (by assumption) | exact ViewsB.of_drop 6 (by assumption) | exact ViewsB.of_drop 7 (by assumption) | exact ViewsB.of_drop 8 (by assumption) | exact ViewsB.of_drop 9 (by assumption) | exact ViewsB.of_drop 10 (by assumption) | exact ViewsB.of_drop 11 (by assumption) | exact ViewsB.of_drop 12 (by assumption)) (by omega) (by first | omega | (simp; done) | (simp; omega)))) rfl ?_
  clear hE a; intro a hE
  refine qv hE (fun w hw => r_bin ⟨hE, hw⟩ rfl rfl (B.gtr_int)) rfl ?_
  clear hE a; intro a hE
  refine qv hE (fun w hw => r_move ⟨hE, hw⟩ rfl) rfl ?_
  clear hE a; intro a hE
  refine qvG hE (by first | exact .t rfl | exact .f rfl | exact .gt rfl | exact .gf rfl) (fun hg w hw => by (try simp only [↓gval_on hg, ↓gval_and hg] at hE); (have hg2 := hg; (try simp only [Bool.and_eq_true, Bool.or_eq_true, Bool.not_eq_true', decide_eq_true_eq, decide_eq_false_iff_not] at hg2)); first | exact r_ldN ⟨hE, hw⟩ rfl K.u_S_uint8 rfl 0 rfl rfl | exact r_ldN ⟨hE, hw⟩ rfl K.u_S_uint8 rfl 1 rfl rfl | exact r_ldN ⟨hE, hw⟩ rfl K.u_S_uint8 rfl 2 rfl rfl | exact r_ldN ⟨hE, hw⟩ rfl K.u_S_uint8 rfl 3 rfl rfl | exact r_ldN ⟨hE, hw⟩ rfl K.u_S_uint8 rfl 4 rfl rfl | exact r_ldN ⟨hE, hw⟩ rfl K.u_S_uint8 rfl 5 rfl rfl | exact r_ldN ⟨hE, hw⟩ rfl K.u_S_uint8 rfl 6 rfl rfl | exact r_load ⟨hE, hw⟩ rfl K.u_S_uint8 rfl 0 rfl rfl | exact r_load ⟨hE, hw⟩ rfl K.u_S_uint8 rfl 1 rfl rfl | exact r_load ⟨hE, hw⟩ rfl K.u_S_uint8 rfl 2 rfl rfl | exact r_load ⟨hE, hw⟩ rfl K.u_S_uint8 rfl 3 rfl rfl | exact r_load ⟨hE, hw⟩ rfl K.u_S_uint8 rfl 4 rfl rfl | exact r_load ⟨hE, hw⟩ rfl K.u_S_uint8 rfl 5 rfl rfl | exact r_load1 ⟨hE, hw⟩ rfl K.u_S_uint8 rfl (by assumption)) rfl ?_
  clear hE a; intro a hE
  refine qvG hE (by first | exact .t rfl | exact .f rfl | exact .gt rfl | exact .gf rfl) (fun hg w hw => by (try simp only [↓gval_on hg, ↓gval_and hg] at hE); (have hg2 := hg; (try simp only [Bool.and_eq_true, Bool.or_eq_true, Bool.not_eq_true', decide_eq_true_eq, decide_eq_false_iff_not] at hg2)); first | exact r_move ⟨hE, hw⟩ rfl) rfl ?_
  clear hE a; intro a hE
  refine qvG hE (by first | exact .t rfl | exact .f rfl | exact .gt rfl | exact .gf rfl) (fun hg w hw => by (try simp only [↓gval_on hg, ↓gval_and hg] at hE); (have hg2 := hg; (try simp only [Bool.and_eq_true, Bool.or_eq_true, Bool.not_eq_true', decide_eq_true_eq, decide_eq_false_iff_not] at hg2)); first | exact r_bin ⟨hE, hw⟩ rfl rfl (B.quo_i64 (by omega) (by omega) (by omega))) rfl ?_
  clear hE a; intro a hE
  refine qvG hE (by first | exact .t rfl | exact .f rfl | exact .gt rfl | exact .gf rfl) (fun hg w hw => by (try simp only [↓gval_on hg, ↓gval_and hg] at hE); (have hg2 := hg; (try simp only [Bool.and_eq_true, Bool.or_eq_true, Bool.not_eq_true', decide_eq_true_eq, decide_eq_false_iff_not] at hg2)); first | exact r_ldN ⟨hE, hw⟩ rfl K.u_S_uint8 rfl 0 rfl rfl | exact r_ldN ⟨hE, hw⟩ rfl K.u_S_uint8 rfl 1 rfl rfl | exact r_ldN ⟨hE, hw⟩ rfl K.u_S_uint8 rfl 2 rfl rfl | exact r_ldN ⟨hE, hw⟩ rfl K.u_S_uint8 rfl 3 rfl rfl | exact r_ldN ⟨hE, hw⟩ rfl K.u_S_uint8 rfl 4 rfl rfl | exact r_ldN ⟨hE, hw⟩ rfl K.u_S_uint8 rfl 5 rfl rfl | exact r_ldN ⟨hE, hw⟩ rfl K.u_S_uint8 rfl 6 rfl rfl | exact r_load ⟨hE, hw⟩ rfl K.u_S_uint8 rfl 0 rfl rfl | exact r_load ⟨hE, hw⟩ rfl K.u_S_uint8 rfl 1 rfl rfl | exact r_load ⟨hE, hw⟩ rfl K.u_S_uint8 rfl 2 rfl rfl | exact r_load ⟨hE, hw⟩ rfl K.u_S_uint8 rfl 3 rfl rfl | exact r_load ⟨hE, hw⟩ rfl K.u_S_uint8 rfl 4 rfl rfl | exact r_load ⟨hE, hw⟩ rfl K.u_S_uint8 rfl 5 rfl rfl | exact r_load1 ⟨hE, hw⟩ rfl K.u_S_uint8 rfl (by assumption)) rfl ?_
  clear hE a; intro a hE
  refine qvG hE (by first | exact .t rfl | exact .f rfl | exact .gt rfl | exact .gf rfl) (fun hg w hw => by (try simp only [↓gval_on hg, ↓gval_and hg] at hE); (have hg2 := hg; (try simp only [Bool.and_eq_true, Bool.or_eq_true, Bool.not_eq_true', decide_eq_true_eq, decide_eq_false_iff_not] at hg2)); first | exact r_lenB ⟨hE, hw⟩ rfl K.u_S_uint8 (by first | exact ViewsB.own 0 rfl | exact ViewsB.own 1 rfl | exact ViewsB.own 2 rfl | exact ViewsB.own 3 rfl | exact ViewsB.own 4 rfl | exact ViewsB.own 5 rfl | assumption | exact ViewsB.nil _ | exact ViewsB.arr 0 rfl (by first | assumption | rfl | (simp; done)) (Nat.le_refl _) (by simp [maxLen]) | exact ViewsB.arr 1 rfl (by first | assumption | rfl | (simp; done)) (Nat.le_refl _) (by simp [maxLen]) | exact ViewsB.arr 2 rfl (by first | assumption | rfl | (simp; done)) (Nat.le_refl _) (by simp [maxLen]) | exact ViewsB.arr 3 rfl (by first | assumption | rfl | (simp; done)) (Nat.le_refl _) (by simp [maxLen]) | exact ViewsB.arr 4 rfl (by first | assumption | rfl | (simp; done)) (Nat.le_refl _) (by simp [maxLen]) | exact ViewsB.of_drop 1 (by assumption) | exact ViewsB.of_drop 2 (by assumption) | exact ViewsB.of_drop 3 (by assumption) | exact ViewsB.of_drop 4 (by assumption) | exact ViewsB.of_drop 5 (by assumption) | exact ViewsB.of_drop 6 (by assumption) | exact ViewsB.of_drop 7 (by assumption) | exact ViewsB.of_drop 8 (by assumption) | exact ViewsB.of_drop 9 (by assumption) | exact ViewsB.of_drop 10 (by assumption) | exact ViewsB.of_drop 11 (by assumption) | exact ViewsB.of_drop 12 (by assumption) | exact ViewsB.sub (by first | exact ViewsB.own 0 rfl | exact ViewsB.own 1 rfl | exact ViewsB.own 2 rfl | exact ViewsB.own 3 rfl | exact ViewsB.own 4 rfl | exact ViewsB.own 5 rfl | assumption | exact ViewsB.nil _ | exact ViewsB.arr 0 rfl (by first | assumption | rfl | (simp; done)) (Nat.le_refl _) (by simp [maxLen]) | exact ViewsB.arr 1 rfl (by first | assumption | rfl | (simp; done)) (Nat.le_refl _) (by simp [maxLen]) | exact ViewsB.arr 2 rfl (by first | assumption | rfl | (simp; done)) (Nat.le_refl _) (by simp [maxLen]) | exact ViewsB.arr 3 rfl (by first | assumption | rfl | (simp; done)) (Nat.le_refl _) (by simp [maxLen]) | exact ViewsB.arr 4 rfl (by first | assumption | rfl | (simp; done)) (Nat.le_refl _) (by simp [maxLen]) | exact ViewsB.of_drop 1 (by assumption) | exact ViewsB.of_drop 2 (by assumption) | exact ViewsB.of_drop 3 (by assumption) | exact ViewsB.of_drop 4 (by assumption) | exact ViewsB.of_drop 5 (by assumption) | exact ViewsB.of_drop 6 (by assumption) | exact ViewsB.of_drop 7 (by assumption) | exact ViewsB.of_drop 8 (by assumption) | exact ViewsB.of_drop 9 (by assumption) | exact ViewsB.of_drop 10 (by assumption) | exact ViewsB.of_drop 11 (by assumption) | exact ViewsB.of_drop 12 (by assumption)) (by omega) (by first | omega | (simp; done) | (simp; omega)))) rfl ?_
  clear hE a; intro a hE
  refine qvG hE (by first | exact .t rfl | exact .f rfl | exact .gt rfl | exact .gf rfl) (fun hg w hw => by (try simp only [↓gval_on hg, ↓gval_and hg] at hE); (have hg2 := hg; (try simp only [Bool.and_eq_true, Bool.or_eq_true, Bool.not_eq_true', decide_eq_true_eq, decide_eq_false_iff_not] at hg2)); first | exact r_bin ⟨hE, hw⟩ rfl rfl (B.rem_i64 (by omega) (by omega))) rfl ?_
  clear hE a; intro a hE
  refine qvG hE (by first | exact .t rfl | exact .f rfl | exact .gt rfl | exact .gf rfl) (fun hg w hw => by (try simp only [↓gval_on hg, ↓gval_and hg] at hE); (have hg2 := hg; (try simp only [Bool.and_eq_true, Bool.or_eq_true, Bool.not_eq_true', decide_eq_true_eq, decide_eq_false_iff_not] at hg2)); first | exact r_elP ⟨hE, hw⟩ rfl rfl K.u_S_uint8 K.sz_uint8 (by first | exact ViewsB.own 0 rfl | exact ViewsB.own 1 rfl | exact ViewsB.own 2 rfl | exact ViewsB.own 3 rfl | exact ViewsB.own 4 rfl | exact ViewsB.own 5 rfl | assumption | exact ViewsB.nil _ | exact ViewsB.arr 0 rfl (by first | assumption | rfl | (simp; done)) (Nat.le_refl _) (by simp [maxLen]) | exact ViewsB.arr 1 rfl (by first | assumption | rfl | (simp; done)) (Nat.le_refl _) (by simp [maxLen]) | exact ViewsB.arr 2 rfl (by first | assumption | rfl | (simp; done)) (Nat.le_refl _) (by simp [maxLen]) | exact ViewsB.arr 3 rfl (by first | assumption | rfl | (simp; done)) (Nat.le_refl _) (by simp [maxLen]) | exact ViewsB.arr 4 rfl (by first | assumption | rfl | (simp; done)) (Nat.le_refl _) (by simp [maxLen]) | exact ViewsB.of_drop 1 (by assumption) | exact ViewsB.of_drop 2 (by assumption) | exact ViewsB.of_drop 3 (by assumption) | exact ViewsB.of_drop 4 (by assumption) | exact ViewsB.of_drop 5 (by assumption) | exact ViewsB.of_drop 6 (by assumption) | exact ViewsB.of_drop 7 (by assumption) | exact ViewsB.of_drop 8 (by assumption) | exact ViewsB.of_drop 9 (by assumption) | exact ViewsB.of_drop 10 (by assumption) | exact ViewsB.of_drop 11 (by assumption) | exact ViewsB.of_drop 12 (by assumption) | exact ViewsB.sub (by first | exact ViewsB.own 0 rfl | exact ViewsB.own 1 rfl | exact ViewsB.own 2 rfl | exact ViewsB.own 3 rfl | exact ViewsB.own 4 rfl | exact ViewsB.own 5 rfl | assumption | exact ViewsB.nil _ | exact ViewsB.arr 0 rfl (by first | assumption | rfl | (simp; done)) (Nat.le_refl _) (by simp [maxLen]) | exact ViewsB.arr 1 rfl (by first | assumption | rfl | (simp; done)) (Nat.le_refl _) (by simp [maxLen]) | exact ViewsB.arr 2 rfl (by first | assumption | rfl | (simp; done)) (Nat.le_refl _) (by simp [maxLen]) | exact ViewsB.arr 3 rfl (by first | assumption | rfl | (simp; done)) (Nat.le_refl _) (by simp [maxLen]) | exact ViewsB.arr 4 rfl (by first | assumption | rfl | (simp; done)) (Nat.le_refl _) (by simp [maxLen]) | exact ViewsB.of_drop 1 (by assumption) | exact ViewsB.of_drop 2 (by assumption) | exact ViewsB.of_drop 3 (by assumption) | exact ViewsB.of_drop 4 (by assumption) | exact ViewsB.of_drop 5 (by assumption) | exact ViewsB.of_drop 6 (by assumption) | exact ViewsB.of_drop 7 (by assumption) | exact ViewsB.of_drop 8 (by assumption) | exact ViewsB.of_drop 9 (by assumption) | exact ViewsB.of_drop 10 (by assumption) | exact ViewsB.of_drop 11 (by assumption) | exact ViewsB.of_drop 12 (by assumption)) (by omega) (by first | omega | (simp; done) | (simp; omega))) (by first | omega | (simp; done)) (by first | omega | (simp only [List.length_cons, List.length_nil]; omega) | (simp; done) | (simp; omega))) rfl ?_
  clear hE a; intro a hE
  refine qvG hE (by first | exact .t rfl | exact .f rfl | exact .gt rfl | exact .gf rfl) (fun hg w hw => by (try simp only [↓gval_on hg, ↓gval_and hg] at hE); (have hg2 := hg; (try simp only [Bool.and_eq_true, Bool.or_eq_true, Bool.not_eq_true', decide_eq_true_eq, decide_eq_false_iff_not] at hg2)); first | exact r_elb ⟨hE, hw⟩ rfl K.u_uint8 rfl (by first | exact ViewsB.own 0 rfl | exact ViewsB.own 1 rfl | exact ViewsB.own 2 rfl | exact ViewsB.own 3 rfl | exact ViewsB.own 4 rfl | exact ViewsB.own 5 rfl | assumption | exact ViewsB.nil _ | exact ViewsB.arr 0 rfl (by first | assumption | rfl | (simp; done)) (Nat.le_refl _) (by simp [maxLen]) | exact ViewsB.arr 1 rfl (by first | assumption | rfl | (simp; done)) (Nat.le_refl _) (by simp [maxLen]) | exact ViewsB.arr 2 rfl (by first | assumption | rfl | (simp; done)) (Nat.le_refl _) (by simp [maxLen]) | exact ViewsB.arr 3 rfl (by first | assumption | rfl | (simp; done)) (Nat.le_refl _) (by simp [maxLen]) | exact ViewsB.arr 4 rfl (by first | assumption | rfl | (simp; done)) (Nat.le_refl _) (by simp [maxLen]) | exact ViewsB.of_drop 1 (by assumption) | exact ViewsB.of_drop 2 (by assumption) | exact ViewsB.of_drop 3 (by assumption) | exact ViewsB.of_drop 4 (by assumption) | exact ViewsB.of_drop 5 (by assumption) | exact ViewsB.of_drop 6 (by assumption) | exact ViewsB.of_drop 7 (by assumption) | exact ViewsB.of_drop 8 (by assumption) | exact ViewsB.of_drop 9 (by assumption) | exact ViewsB.of_drop 10 (by assumption) | exact ViewsB.of_drop 11 (by assumption) | exact ViewsB.of_drop 12 (by assumption) | exact ViewsB.sub (by first | exact ViewsB.own 0 rfl | exact ViewsB.own 1 rfl | exact ViewsB.own 2 rfl | exact ViewsB.own 3 rfl | exact ViewsB.own 4 rfl | exact ViewsB.own 5 rfl | assumption | exact ViewsB.nil _ | exact ViewsB.arr 0 rfl (by first | assumption | rfl | (simp; done)) (Nat.le_refl _) (by simp [maxLen]) | exact ViewsB.arr 1 rfl (by first | assumption | rfl | (simp; done)) (Nat.le_refl _) (by simp [maxLen]) | exact ViewsB.arr 2 rfl (by first | assumption | rfl | (simp; done)) (Nat.le_refl _) (by simp [maxLen]) | exact ViewsB.arr 3 rfl (by first | assumption | rfl | (simp; done)) (Nat.le_refl _) (by simp [maxLen]) | exact ViewsB.arr 4 rfl (by first | assumption | rfl | (simp; done)) (Nat.le_refl _) (by simp [maxLen]) | exact ViewsB.of_drop 1 (by assumption) | exact ViewsB.of_drop 2 (by assumption) | exact ViewsB.of_drop 3 (by assumption) | exact ViewsB.of_drop 4 (by assumption) | exact ViewsB.of_drop 5 (by assumption) | exact ViewsB.of_drop 6 (by assumption) | exact ViewsB.of_drop 7 (by assumption) | exact ViewsB.of_drop 8 (by assumption) | exact ViewsB.of_drop 9 (by assumption) | exact ViewsB.of_drop 10 (by assumption) | exact ViewsB.of_drop 11 (by assumption) | exact ViewsB.of_drop 12 (by assumption)) (by omega) (by first | omega | (simp; done) | (simp; omega))) (by first | omega | (simp only [List.length_cons, List.length_nil]; omega) | (simp; done) | (simp; omega))) rfl ?_
  clear hE a; intro a hE
  refine qvG hE (by first | exact .t rfl | exact .f rfl | exact .gt rfl | exact .gf rfl) (fun hg w hw => by (try simp only [↓gval_on hg, ↓gval_and hg] at hE); (have hg2 := hg; (try simp only [Bool.and_eq_true, Bool.or_eq_true, Bool.not_eq_true', decide_eq_true_eq, decide_eq_false_iff_not] at hg2)); first | exact r_move ⟨hE, hw⟩ rfl) rfl ?_
  clear hE a; intro a hE
  refine qvG hE (by first | exact .t rfl | exact .f rfl | exact .gt rfl | exact .gf rfl) (fun hg w hw => by (try simp only [↓gval_on hg, ↓gval_and hg] at hE); (have hg2 := hg; (try simp only [Bool.and_eq_true, Bool.or_eq_true, Bool.not_eq_true', decide_eq_true_eq, decide_eq_false_iff_not] at hg2)); first | exact r_bin ⟨hE, hw⟩ rfl rfl (B.rem_i64 (by omega) (by omega))) rfl ?_
  clear hE a; intro a hE
  refine qvG hE (by first | exact .t rfl | exact .f rfl | exact .gt rfl | exact .gf rfl) (fun hg w hw => by (try simp only [↓gval_on hg, ↓gval_and hg] at hE); (have hg2 := hg; (try simp only [Bool.and_eq_true, Bool.or_eq_true, Bool.not_eq_true', decide_eq_true_eq, decide_eq_false_iff_not] at hg2)); first | exact r_bin ⟨hE, hw⟩ rfl rfl (B.shr_u8 (by omega))) rfl ?_
  clear hE a; intro a hE
  refine qvG hE (by first | exact .t rfl | exact .f rfl | exact .gt rfl | exact .gf rfl) (fun hg w hw => by (try simp only [↓gval_on hg, ↓gval_and hg] at hE); (have hg2 := hg; (try simp only [Bool.and_eq_true, Bool.or_eq_true, Bool.not_eq_true', decide_eq_true_eq, decide_eq_false_iff_not] at hg2)); first | exact r_bin ⟨hE, hw⟩ rfl rfl (B.and_u8 (y := 1))) rfl ?_
  clear hE a; intro a hE
  refine qvG hE (by first | exact .t rfl | exact .f rfl | exact .gt rfl | exact .gf rfl) (fun hg w hw => by (try simp only [↓gval_on hg, ↓gval_and hg] at hE); (have hg2 := hg; (try simp only [Bool.and_eq_true, Bool.or_eq_true, Bool.not_eq_true', decide_eq_true_eq, decide_eq_false_iff_not] at hg2)); first | exact r_bin ⟨hE, hw⟩ rfl rfl (B.eql_u8 (y := 1))) rfl ?_
  clear hE a; intro a hE
  first
    | (refine qv hE (fun w hw => r_pickA ⟨hE, hw⟩ rfl rfl rfl) rfl ?_)
    | (refine qv hE (fun w hw => r_pickO ⟨hE, hw⟩ rfl rfl rfl) rfl ?_)
    | (refine qv hE (fun w hw => r_pick_true ⟨hE, hw⟩ rfl rfl) rfl ?_)
    | (refine qv hE (fun w hw => r_pick_false ⟨hE, hw⟩ rfl rfl) rfl ?_)
    | (refine qv hE (fun w hw => r_pick ⟨hE, hw⟩ rfl rfl rfl) rfl ?_)
  clear hE a; intro a hE
  refine qv hE (fun w hw => r_assign ⟨hE, hw⟩ rfl) rfl ?_
  clear hE a; intro a hE
  refine qnil hE ?_
  clear hE a; intro a w h
  refine c_then ?_
  refine c_ret ?_
  exact ret1 h rfl rfl ⟨(), by rw [Dk.bit, e1, e2], h.2, trivial⟩

theorem disk_Flush (s w : World) (b : Nat) (D : Dk) (L : List HItem) (i : Nat) (hi : L[i]? = some (DiskI b D)) (hok : D.ok) (hac : D.acts < 1000000000) (hs : Sat s w L) :
    Calls P n_disk_Disk_Flush #[dp b] w (Ret s (fun _ : Unit => .int .i64 (if D.goes then 0 else 9)) (fun _ => L.set i (DiskI b D.flush)) (fun _ => True)) := by
  refine at0 i hi hs fun F hF hs2 => ?_
  clear hs hi hF
  replace hs := hs2
  clear hs2
  refine enter K.fn_disk_Disk_Flush rfl K.nt_disk_Disk_Flush rfl hs ?_
  clear hs w; intro a w h
  refine c_seq (c_region ?_)
  refine wv h (r_assign h rfl) rfl ?_
  clear h a w; intro a w h
  refine wnil (c_then ?_)
  refine c_seq ?_
  refine c_block ?_
  refine c_seq (c_region ?_)
  refine wv h (r_move h rfl) rfl ?_
  clear h a w; intro a w h
  refine wv h (r_ptreq_nil h K.u_p_disk_Disk rfl rfl) rfl ?_
  clear h a w; intro a w h
  refine wv h (r_assign h rfl) rfl ?_
  clear h a w; intro a w h
  refine wnil (c_then ?_)
  refine c_false h rfl ?_
  refine c_seq (c_region ?_)
  refine wv h (r_move h rfl) rfl ?_
  clear h a w; intro a w h
  refine wl rfl (op_call h rfl K.go_disk_Disk_act (disk_act s _ b D _ 0 rfl hok h.2) rfl ?_)
  clear h a w; intro x a w hx h
  (try simp only [List.set_cons_zero, List.set_cons_succ] at h)
  replace h : St 12 s a w _ (DiskI b D.act :: F) := h
  refine wv h (r_not h rfl) rfl ?_
  clear h a w; intro a w h
  refine wv h (r_assign h rfl) rfl ?_
  clear h a w; intro a w h
  refine wnil (c_then ?_)
  first
   | refine c_condD h rfl (fun ht2 => ?_) (fun ht2 => ?_)
   | refine c_condP h rfl (by first | (simp only [Bool.and_eq_true, Bool.or_eq_true, Bool.not_eq_true', decide_eq_true_eq, decide_eq_false_iff_not, ne_eq, Bool.not_eq_eq_eq_not, Bool.not_true, beq_iff_eq, bne_iff_ne]; exact Iff.rfl) | exact Iff.rfl) (fun ht2 => ?_) (fun ht2 => ?_)
  ·
   as_aux_lemma =>
    refine c_seq (c_region ?_)
    refine wv h (r_assign h rfl) rfl ?_
    clear h a w; intro a w h
    refine wnil (c_then ?_)
    refine c_ret ?_
    exact ret1 h rfl rfl ⟨(), by simp_all, by rw [Dk.flush, if_neg (by simpa using ht2)]; exact h.2, trivial⟩
  ·
   refine c_skip ?_
   refine b_normal ?_
   refine c_then ?_
   refine c_seq (c_region ?_)
   refine wv h (r_move h rfl) rfl ?_
   clear h a w; intro a w h
   refine wl rfl (op_call h rfl K.go_disk_Disk_keep (disk_keep s _ b D.act n_disk_Disk_Flush_1 [] (fun _ => true) F (Dk.act_ok hok hac).1 K.go_disk_Disk_Flush_1 (fun G i w' _ h => disk_Flush_1 s w' i _ h) h.2) rfl ?_)
   clear h a w; intro x a w hx h
   (try simp only [List.set_cons_zero, List.set_cons_succ] at h)
   refine wnil (c_then ?_)
   refine c_seq (c_region ?_)
   refine wv h (r_assign h rfl) rfl ?_
   clear h a w; intro a w h
   refine wnil (c_then ?_)
   refine c_ret ?_
   exact ret1 h rfl rfl ⟨(), by simp_all, by rw [Dk.flush, if_pos (by simpa using ht2)]; exact h.2, trivial⟩
theorem disk_Flush_nil (s w : World) (F : List HItem) (hs : Sat s w F) :
    Calls P n_disk_Disk_Flush #[dnil] w (Ret s (fun _ : Unit => .int .i64 2) (fun _ => F) (fun _ => True)) := by
  refine enter K.fn_disk_Disk_Flush rfl K.nt_disk_Disk_Flush rfl hs ?_
  clear hs w; intro a w h
  refine c_seq (c_region ?_)
  refine wv h (r_assign h rfl) rfl ?_
  clear h a w; intro a w h
  refine wnil (c_then ?_)
  refine c_seq ?_
  refine c_block ?_
  refine c_seq (c_region ?_)
  refine wv h (r_move h rfl) rfl ?_
  clear h a w; intro a w h
  refine wv h (r_ptreq_nil h K.u_p_disk_Disk rfl rfl) rfl ?_
  clear h a w; intro a w h
  refine wv h (r_assign h rfl) rfl ?_
  clear h a w; intro a w h
  refine wnil (c_then ?_)
  refine c_true h rfl ?_
  refine c_seq (c_region ?_)
  refine wv h (r_assign h rfl) rfl ?_
  clear h a w; intro a w h
  refine wnil (c_then ?_)
  refine c_ret ?_
  exact ret1 h rfl rfl ⟨(), rfl, h.2, trivial⟩
theorem disk_Arm (s w : World) (b : Nat) (D : Dk) (c : Int) (L : List HItem) (i : Nat) (hi : L[i]? = some (DiskI b D)) (hs : Sat s w L) :
    Calls P n_disk_Disk_Arm #[dp b, .int .i64 c] w (Ret s (fun _ : Unit => .tuple #[]) (fun _ => L.set i (DiskI b (D.arm c))) (fun _ => True)) := by
  refine at0 i hi hs fun F hF hs2 => ?_
  clear hs hi hF
  obtain ⟨vs, vw, hs⟩ := DiskI_open hs2
  clear hs2
  refine enter K.fn_disk_Disk_Arm rfl K.nt_disk_Disk_Arm rfl hs ?_
  clear hs w; intro a w h
  refine c_seq (c_region ?_)
  refine wv h (r_move h rfl) rfl ?_
  clear h a w; intro a w h
  refine wv h (r_ptrne_nil h K.u_p_disk_Disk rfl rfl) rfl ?_
  clear h a w; intro a w h
  refine wnil (c_then ?_)
  refine c_true h rfl ?_
  refine c_region ?_
  refine wv h (r_move h rfl) rfl ?_
  clear h a w; intro a w h
  refine wv h (r_move h rfl) rfl ?_
  clear h a w; intro a w h
  refine wv h (r_max2 h rfl rfl) rfl ?_
  clear h a w; intro a w h
  refine wv h (r_nilCheck h rfl) rfl ?_
  clear h a w; intro a w h
  refine wv h (r_fieldAddr h 2 rfl K.u_disk_Disk rfl K.sz_int rfl rfl) rfl ?_
  clear h a w; intro a w h
  first
    | (refine wl rfl (op_storeN h rfl rfl K.sz_int (by first | rfl | assumption | exact Views.oneCell (Views.own 0 rfl) h.2 | exact Views.oneCell (Views.own 1 rfl) h.2 | exact Views.oneCell (Views.own 2 rfl) h.2 | exact Views.oneCell (Views.own 3 rfl) h.2 | exact Views.oneCell (Views.own 4 rfl) h.2 | exact Views.oneCell (Views.own 5 rfl) h.2 | exact Views.oneCell (by assumption) h.2) 0 rfl rfl ?_))
    | (refine wl rfl (op_storeN h rfl rfl K.sz_int (by first | rfl | assumption | exact Views.oneCell (Views.own 0 rfl) h.2 | exact Views.oneCell (Views.own 1 rfl) h.2 | exact Views.oneCell (Views.own 2 rfl) h.2 | exact Views.oneCell (Views.own 3 rfl) h.2 | exact Views.oneCell (Views.own 4 rfl) h.2 | exact Views.oneCell (Views.own 5 rfl) h.2 | exact Views.oneCell (by assumption) h.2) 1 rfl rfl ?_))
    | (refine wl rfl (op_storeN h rfl rfl K.sz_int (by first | rfl | assumption | exact Views.oneCell (Views.own 0 rfl) h.2 | exact Views.oneCell (Views.own 1 rfl) h.2 | exact Views.oneCell (Views.own 2 rfl) h.2 | exact Views.oneCell (Views.own 3 rfl) h.2 | exact Views.oneCell (Views.own 4 rfl) h.2 | exact Views.oneCell (Views.own 5 rfl) h.2 | exact Views.oneCell (by assumption) h.2) 2 rfl rfl ?_))
    | (refine wl rfl (op_storeN h rfl rfl K.sz_int (by first | rfl | assumption | exact Views.oneCell (Views.own 0 rfl) h.2 | exact Views.oneCell (Views.own 1 rfl) h.2 | exact Views.oneCell (Views.own 2 rfl) h.2 | exact Views.oneCell (Views.own 3 rfl) h.2 | exact Views.oneCell (Views.own 4 rfl) h.2 | exact Views.oneCell (Views.own 5 rfl) h.2 | exact Views.oneCell (by assumption) h.2) 3 rfl rfl ?_))
    | (refine wl rfl (op_storeN h rfl rfl K.sz_int (by first | rfl | assumption | exact Views.oneCell (Views.own 0 rfl) h.2 | exact Views.oneCell (Views.own 1 rfl) h.2 | exact Views.oneCell (Views.own 2 rfl) h.2 | exact Views.oneCell (Views.own 3 rfl) h.2 | exact Views.oneCell (Views.own 4 rfl) h.2 | exact Views.oneCell (Views.own 5 rfl) h.2 | exact Views.oneCell (by assumption) h.2) 4 rfl rfl ?_))
    | (refine wl rfl (op_storeN h rfl rfl K.sz_int (by first | rfl | assumption | exact Views.oneCell (Views.own 0 rfl) h.2 | exact Views.oneCell (Views.own 1 rfl) h.2 | exact Views.oneCell (Views.own 2 rfl) h.2 | exact Views.oneCell (Views.own 3 rfl) h.2 | exact Views.oneCell (Views.own 4 rfl) h.2 | exact Views.oneCell (Views.own 5 rfl) h.2 | exact Views.oneCell (by assumption) h.2) 5 rfl rfl ?_))
    | (refine wl rfl (op_storeN h rfl rfl K.sz_int (by first | rfl | assumption | exact Views.oneCell (Views.own 0 rfl) h.2 | exact Views.oneCell (Views.own 1 rfl) h.2 | exact Views.oneCell (Views.own 2 rfl) h.2 | exact Views.oneCell (Views.own 3 rfl) h.2 | exact Views.oneCell (Views.own 4 rfl) h.2 | exact Views.oneCell (Views.own 5 rfl) h.2 | exact Views.oneCell (by assumption) h.2) 6 rfl rfl ?_))
    | (refine wl rfl (op_storeC (o := 2) h rfl rfl K.sz_int (by first | rfl | assumption | exact Views.oneCell (Views.own 0 rfl) h.2 | exact Views.oneCell (Views.own 1 rfl) h.2 | exact Views.oneCell (Views.own 2 rfl) h.2 | exact Views.oneCell (Views.own 3 rfl) h.2 | exact Views.oneCell (Views.own 4 rfl) h.2 | exact Views.oneCell (Views.own 5 rfl) h.2 | exact Views.oneCell (by assumption) h.2) 0 rfl ?_))
    | (refine wl rfl (op_storeC (o := 2) h rfl rfl K.sz_int (by first | rfl | assumption | exact Views.oneCell (Views.own 0 rfl) h.2 | exact Views.oneCell (Views.own 1 rfl) h.2 | exact Views.oneCell (Views.own 2 rfl) h.2 | exact Views.oneCell (Views.own 3 rfl) h.2 | exact Views.oneCell (Views.own 4 rfl) h.2 | exact Views.oneCell (Views.own 5 rfl) h.2 | exact Views.oneCell (by assumption) h.2) 1 rfl ?_))
    | (refine wl rfl (op_storeC (o := 2) h rfl rfl K.sz_int (by first | rfl | assumption | exact Views.oneCell (Views.own 0 rfl) h.2 | exact Views.oneCell (Views.own 1 rfl) h.2 | exact Views.oneCell (Views.own 2 rfl) h.2 | exact Views.oneCell (Views.own 3 rfl) h.2 | exact Views.oneCell (Views.own 4 rfl) h.2 | exact Views.oneCell (Views.own 5 rfl) h.2 | exact Views.oneCell (by assumption) h.2) 2 rfl ?_))
    | (refine wl rfl (op_storeC (o := 2) h rfl rfl K.sz_int (by first | rfl | assumption | exact Views.oneCell (Views.own 0 rfl) h.2 | exact Views.oneCell (Views.own 1 rfl) h.2 | exact Views.oneCell (Views.own 2 rfl) h.2 | exact Views.oneCell (Views.own 3 rfl) h.2 | exact Views.oneCell (Views.own 4 rfl) h.2 | exact Views.oneCell (Views.own 5 rfl) h.2 | exact Views.oneCell (by assumption) h.2) 3 rfl ?_))
    | (refine wl rfl (op_storeC (o := 2) h rfl rfl K.sz_int (by first | rfl | assumption | exact Views.oneCell (Views.own 0 rfl) h.2 | exact Views.oneCell (Views.own 1 rfl) h.2 | exact Views.oneCell (Views.own 2 rfl) h.2 | exact Views.oneCell (Views.own 3 rfl) h.2 | exact Views.oneCell (Views.own 4 rfl) h.2 | exact Views.oneCell (Views.own 5 rfl) h.2 | exact Views.oneCell (by assumption) h.2) 4 rfl ?_))
    | (refine wl rfl (op_storeC (o := 2) h rfl rfl K.sz_int (by first | rfl | assumption | exact Views.oneCell (Views.own 0 rfl) h.2 | exact Views.oneCell (Views.own 1 rfl) h.2 | exact Views.oneCell (Views.own 2 rfl) h.2 | exact Views.oneCell (Views.own 3 rfl) h.2 | exact Views.oneCell (Views.own 4 rfl) h.2 | exact Views.oneCell (Views.own 5 rfl) h.2 | exact Views.oneCell (by assumption) h.2) 5 rfl ?_))
    | (refine wl rfl (op_storeC (o := 2) h rfl rfl K.sz_int (by first | rfl | assumption | exact Views.oneCell (Views.own 0 rfl) h.2 | exact Views.oneCell (Views.own 1 rfl) h.2 | exact Views.oneCell (Views.own 2 rfl) h.2 | exact Views.oneCell (Views.own 3 rfl) h.2 | exact Views.oneCell (Views.own 4 rfl) h.2 | exact Views.oneCell (Views.own 5 rfl) h.2 | exact Views.oneCell (by assumption) h.2) 6 rfl ?_))
  clear h a w; intro a w h
  (try simp only [List.set_cons_zero, List.set_cons_succ] at h)
  refine wnil ?_
  exact end0 h rfl ⟨(), rfl, DiskI_shut (vs := vs) (vw := vw) (D := D.arm c) h.2, trivial⟩
theorem disk_Arm_nil (s w : World) (c : Int) (F : List HItem) (hs : Sat s w F) :
    Calls P n_disk_Disk_Arm #[dnil, .int .i64 c] w (Ret s (fun _ : Unit => .tuple #[]) (fun _ => F) (fun _ => True)) := by
  refine enter K.fn_disk_Disk_Arm rfl K.nt_disk_Disk_Arm rfl hs ?_
  clear hs w; intro a w h
  refine c_seq (c_region ?_)
  refine wv h (r_move h rfl) rfl ?_
  clear h a w; intro a w h
  refine wv h (r_ptrne_nil h K.u_p_disk_Disk rfl rfl) rfl ?_
  clear h a w; intro a w h
  refine wnil (c_then ?_)
  refine c_false h rfl ?_
  refine c_skip ?_
  exact end0 h rfl ⟨(), rfl, h.2, trivial⟩
theorem disk_Crash (s w : World) (b : Nat) (D : Dk) (mv : Value) (m : List UInt8) (L : List HItem) (i : Nat) (hi : L[i]? = some (DiskI b D)) (hok : D.ok) (hm : ViewsB (L.eraseIdx i) mv m) (hs : Sat s w L) :
    Calls P n_disk_Disk_Crash #[dp b, mv] w (Ret s (fun _ : Unit => .tuple #[]) (fun _ => L.set i (DiskI b (D.crash m))) (fun _ => True)) := by
  refine at0 i hi hs fun F hF hs2 => ?_
  rw [← hF] at hm
  clear hs hi hF
  replace hs := hs2
  clear hs2
  have hcm : ∀ b3 : Nat, CellsAt (Blk b3 (.cells mv.cells t_S_uint8) :: F) ⟨b3, 0, none⟩ [mv] := fun b3 => by
    obtain ⟨A, cap, rfl, _⟩ := Views.shape hm hs.tail
    exact CellsAt.of_mem 0 rfl fun j u hj => by
      cases j with
      | zero => simpa [Value.cells] using hj
      | succ j => simp at hj
  refine enter K.fn_disk_Disk_Crash rfl K.nt_disk_Disk_Crash rfl hs ?_
  clear hs w; intro a w h
  refine c_seq (c_region ?_)
  refine wl rfl (op_box h rfl rfl ?_)
  clear h a w; intro b3 a w h
  try simp only [Value.cells] at h
  refine wnil (c_then ?_)
  refine c_seq ?_
  refine c_seq (c_region ?_)
  refine wv h (r_move h rfl) rfl ?_
  clear h a w; intro a w h
  refine wv h (r_ptreq_nil h K.u_p_disk_Disk rfl rfl) rfl ?_
  clear h a w; intro a w h
  refine wnil (c_then ?_)
  refine c_false h rfl ?_
  refine c_skip ?_
  refine c_then ?_
  refine c_seq (c_region ?_)
  refine wv h (r_move h rfl) rfl ?_
  clear h a w; intro a w h
  refine wv h (r_makeFunc h rfl rfl) rfl ?_
  clear h a w; intro a w h
  refine wl rfl (op_call h rfl K.go_disk_Disk_keep (disk_keep s _ b D n_disk_Disk_Crash_1 [.pointer (some ⟨b3, 0, none⟩)] (Dk.bit m) (Blk b3 (.cells mv.cells t_S_uint8) :: F) hok K.go_disk_Disk_Crash_1 (fun G i w' hi h => disk_Crash_1 s w' i b3 mv m _ (by have := hok.2.2.2.2; omega) (CellsAt.prep (hcm b3) G) (ViewsB.prep (hm.cons _) G) h) (h.2.perm (.swap _ _ _))) rfl ?_)
  clear h a w; intro x a w hx h
  (try simp only [List.set_cons_zero, List.set_cons_succ] at h)
  obtain ⟨vs, vw, h'⟩ := St_open h
  replace h := h'
  clear h'
  refine wnil (c_then ?_)
  refine c_region ?_
  refine wv h (r_move h rfl) rfl ?_
  clear h a w; intro a w h
  refine wv h (r_move h rfl) rfl ?_
  clear h a w; intro a w h
  refine wv h (r_nilCheck h rfl) rfl ?_
  clear h a w; intro a w h
  refine wv h (r_fieldAddr h 3 rfl K.u_disk_Disk rfl K.sz_bool rfl rfl) rfl ?_
  clear h a w; intro a w h
  first
    | (refine wl rfl (op_storeN h rfl rfl K.sz_bool (by first | rfl | assumption | exact Views.oneCell (Views.own 0 rfl) h.2 | exact Views.oneCell (Views.own 1 rfl) h.2 | exact Views.oneCell (Views.own 2 rfl) h.2 | exact Views.oneCell (Views.own 3 rfl) h.2 | exact Views.oneCell (Views.own 4 rfl) h.2 | exact Views.oneCell (Views.own 5 rfl) h.2 | exact Views.oneCell (by assumption) h.2) 0 rfl rfl ?_))
    | (refine wl rfl (op_storeN h rfl rfl K.sz_bool (by first | rfl | assumption | exact Views.oneCell (Views.own 0 rfl) h.2 | exact Views.oneCell (Views.own 1 rfl) h.2 | exact Views.oneCell (Views.own 2 rfl) h.2 | exact Views.oneCell (Views.own 3 rfl) h.2 | exact Views.oneCell (Views.own 4 rfl) h.2 | exact Views.oneCell (Views.own 5 rfl) h.2 | exact Views.oneCell (by assumption) h.2) 1 rfl rfl ?_))
    | (refine wl rfl (op_storeN h rfl rfl K.sz_bool (by first | rfl | assumption | exact Views.oneCell (Views.own 0 rfl) h.2 | exact Views.oneCell (Views.own 1 rfl) h.2 | exact Views.oneCell (Views.own 2 rfl) h.2 | exact Views.oneCell (Views.own 3 rfl) h.2 | exact Views.oneCell (Views.own 4 rfl) h.2 | exact Views.oneCell (Views.own 5 rfl) h.2 | exact Views.oneCell (by assumption) h.2) 2 rfl rfl ?_))
    | (refine wl rfl (op_storeN h rfl rfl K.sz_bool (by first | rfl | assumption | exact Views.oneCell (Views.own 0 rfl) h.2 | exact Views.oneCell (Views.own 1 rfl) h.2 | exact Views.oneCell (Views.own 2 rfl) h.2 | exact Views.oneCell (Views.own 3 rfl) h.2 | exact Views.oneCell (Views.own 4 rfl) h.2 | exact Views.oneCell (Views.own 5 rfl) h.2 | exact Views.oneCell (by assumption) h.2) 3 rfl rfl ?_))
    | (refine wl rfl (op_storeN h rfl rfl K.sz_bool (by first | rfl | assumption | exact Views.oneCell (Views.own 0 rfl) h.2 | exact Views.oneCell (Views.own 1 rfl) h.2 | exact Views.oneCell (Views.own 2 rfl) h.2 | exact Views.oneCell (Views.own 3 rfl) h.2 | exact Views.oneCell (Views.own 4 rfl) h.2 | exact Views.oneCell (Views.own 5 rfl) h.2 | exact Views.oneCell (by assumption) h.2) 4 rfl rfl ?_))
    | (refine wl rfl (op_storeN h rfl rfl K.sz_bool (by first | rfl | assumption | exact Views.oneCell (Views.own 0 rfl) h.2 | exact Views.oneCell (Views.own 1 rfl) h.2 | exact Views.oneCell (Views.own 2 rfl) h.2 | exact Views.oneCell (Views.own 3 rfl) h.2 | exact Views.oneCell (Views.own 4 rfl) h.2 | exact Views.oneCell (Views.own 5 rfl) h.2 | exact Views.oneCell (by assumption) h.2) 5 rfl rfl ?_))
    | (refine wl rfl (op_storeN h rfl rfl K.sz_bool (by first | rfl | assumption | exact Views.oneCell (Views.own 0 rfl) h.2 | exact Views.oneCell (Views.own 1 rfl) h.2 | exact Views.oneCell (Views.own 2 rfl) h.2 | exact Views.oneCell (Views.own 3 rfl) h.2 | exact Views.oneCell (Views.own 4 rfl) h.2 | exact Views.oneCell (Views.own 5 rfl) h.2 | exact Views.oneCell (by assumption) h.2) 6 rfl rfl ?_))
    | (refine wl rfl (op_storeC (o := 3) h rfl rfl K.sz_bool (by first | rfl | assumption | exact Views.oneCell (Views.own 0 rfl) h.2 | exact Views.oneCell (Views.own 1 rfl) h.2 | exact Views.oneCell (Views.own 2 rfl) h.2 | exact Views.oneCell (Views.own 3 rfl) h.2 | exact Views.oneCell (Views.own 4 rfl) h.2 | exact Views.oneCell (Views.own 5 rfl) h.2 | exact Views.oneCell (by assumption) h.2) 0 rfl ?_))
    | (refine wl rfl (op_storeC (o := 3) h rfl rfl K.sz_bool (by first | rfl | assumption | exact Views.oneCell (Views.own 0 rfl) h.2 | exact Views.oneCell (Views.own 1 rfl) h.2 | exact Views.oneCell (Views.own 2 rfl) h.2 | exact Views.oneCell (Views.own 3 rfl) h.2 | exact Views.oneCell (Views.own 4 rfl) h.2 | exact Views.oneCell (Views.own 5 rfl) h.2 | exact Views.oneCell (by assumption) h.2) 1 rfl ?_))
    | (refine wl rfl (op_storeC (o := 3) h rfl rfl K.sz_bool (by first | rfl | assumption | exact Views.oneCell (Views.own 0 rfl) h.2 | exact Views.oneCell (Views.own 1 rfl) h.2 | exact Views.oneCell (Views.own 2 rfl) h.2 | exact Views.oneCell (Views.own 3 rfl) h.2 | exact Views.oneCell (Views.own 4 rfl) h.2 | exact Views.oneCell (Views.own 5 rfl) h.2 | exact Views.oneCell (by assumption) h.2) 2 rfl ?_))
    | (refine wl rfl (op_storeC (o := 3) h rfl rfl K.sz_bool (by first | rfl | assumption | exact Views.oneCell (Views.own 0 rfl) h.2 | exact Views.oneCell (Views.own 1 rfl) h.2 | exact Views.oneCell (Views.own 2 rfl) h.2 | exact Views.oneCell (Views.own 3 rfl) h.2 | exact Views.oneCell (Views.own 4 rfl) h.2 | exact Views.oneCell (Views.own 5 rfl) h.2 | exact Views.oneCell (by assumption) h.2) 3 rfl ?_))
    | (refine wl rfl (op_storeC (o := 3) h rfl rfl K.sz_bool (by first | rfl | assumption | exact Views.oneCell (Views.own 0 rfl) h.2 | exact Views.oneCell (Views.own 1 rfl) h.2 | exact Views.oneCell (Views.own 2 rfl) h.2 | exact Views.oneCell (Views.own 3 rfl) h.2 | exact Views.oneCell (Views.own 4 rfl) h.2 | exact Views.oneCell (Views.own 5 rfl) h.2 | exact Views.oneCell (by assumption) h.2) 4 rfl ?_))
    | (refine wl rfl (op_storeC (o := 3) h rfl rfl K.sz_bool (by first | rfl | assumption | exact Views.oneCell (Views.own 0 rfl) h.2 | exact Views.oneCell (Views.own 1 rfl) h.2 | exact Views.oneCell (Views.own 2 rfl) h.2 | exact Views.oneCell (Views.own 3 rfl) h.2 | exact Views.oneCell (Views.own 4 rfl) h.2 | exact Views.oneCell (Views.own 5 rfl) h.2 | exact Views.oneCell (by assumption) h.2) 5 rfl ?_))
    | (refine wl rfl (op_storeC (o := 3) h rfl rfl K.sz_bool (by first | rfl | assumption | exact Views.oneCell (Views.own 0 rfl) h.2 | exact Views.oneCell (Views.own 1 rfl) h.2 | exact Views.oneCell (Views.own 2 rfl) h.2 | exact Views.oneCell (Views.own 3 rfl) h.2 | exact Views.oneCell (Views.own 4 rfl) h.2 | exact Views.oneCell (Views.own 5 rfl) h.2 | exact Views.oneCell (by assumption) h.2) 6 rfl ?_))
  clear h a w; intro a w h
  (try simp only [List.set_cons_zero, List.set_cons_succ] at h)
  refine wv h (r_nilCheck h rfl) rfl ?_
  clear h a w; intro a w h
  refine wv h (r_fieldAddr h 2 rfl K.u_disk_Disk rfl K.sz_int rfl rfl) rfl ?_
  clear h a w; intro a w h
  first
    | (refine wl rfl (op_storeN h rfl rfl K.sz_int (by first | rfl | assumption | exact Views.oneCell (Views.own 0 rfl) h.2 | exact Views.oneCell (Views.own 1 rfl) h.2 | exact Views.oneCell (Views.own 2 rfl) h.2 | exact Views.oneCell (Views.own 3 rfl) h.2 | exact Views.oneCell (Views.own 4 rfl) h.2 | exact Views.oneCell (Views.own 5 rfl) h.2 | exact Views.oneCell (by assumption) h.2) 0 rfl rfl ?_))
    | (refine wl rfl (op_storeN h rfl rfl K.sz_int (by first | rfl | assumption | exact Views.oneCell (Views.own 0 rfl) h.2 | exact Views.oneCell (Views.own 1 rfl) h.2 | exact Views.oneCell (Views.own 2 rfl) h.2 | exact Views.oneCell (Views.own 3 rfl) h.2 | exact Views.oneCell (Views.own 4 rfl) h.2 | exact Views.oneCell (Views.own 5 rfl) h.2 | exact Views.oneCell (by assumption) h.2) 1 rfl rfl ?_))
    | (refine wl rfl (op_storeN h rfl rfl K.sz_int (by first | rfl | assumption | exact Views.oneCell (Views.own 0 rfl) h.2 | exact Views.oneCell (Views.own 1 rfl) h.2 | exact Views.oneCell (Views.own 2 rfl) h.2 | exact Views.oneCell (Views.own 3 rfl) h.2 | exact Views.oneCell (Views.own 4 rfl) h.2 | exact Views.oneCell (Views.own 5 rfl) h.2 | exact Views.oneCell (by assumption) h.2) 2 rfl rfl ?_))
    | (refine wl rfl (op_storeN h rfl rfl K.sz_int (by first | rfl | assumption | exact Views.oneCell (Views.own 0 rfl) h.2 | exact Views.oneCell (Views.own 1 rfl) h.2 | exact Views.oneCell (Views.own 2 rfl) h.2 | exact Views.oneCell (Views.own 3 rfl) h.2 | exact Views.oneCell (Views.own 4 rfl) h.2 | exact Views.oneCell (Views.own 5 rfl) h.2 | exact Views.oneCell (by assumption) h.2) 3 rfl rfl ?_))
    | (refine wl rfl (op_storeN h rfl rfl K.sz_int (by first | rfl | assumption | exact Views.oneCell (Views.own 0 rfl) h.2 | exact Views.oneCell (Views.own 1 rfl) h.2 | exact Views.oneCell (Views.own 2 rfl) h.2 | exact Views.oneCell (Views.own 3 rfl) h.2 | exact Views.oneCell (Views.own 4 rfl) h.2 | exact Views.oneCell (Views.own 5 rfl) h.2 | exact Views.oneCell (by assumption) h.2) 4 rfl rfl ?_))
    | (refine wl rfl (op_storeN h rfl rfl K.sz_int (by first | rfl | assumption | exact Views.oneCell (Views.own 0 rfl) h.2 | exact Views.oneCell (Views.own 1 rfl) h.2 | exact Views.oneCell (Views.own 2 rfl) h.2 | exact Views.oneCell (Views.own 3 rfl) h.2 | exact Views.oneCell (Views.own 4 rfl) h.2 | exact Views.oneCell (Views.own 5 rfl) h.2 | exact Views.oneCell (by assumption) h.2) 5 rfl rfl ?_))
    | (refine wl rfl (op_storeN h rfl rfl K.sz_int (by first | rfl | assumption | exact Views.oneCell (Views.own 0 rfl) h.2 | exact Views.oneCell (Views.own 1 rfl) h.2 | exact Views.oneCell (Views.own 2 rfl) h.2 | exact Views.oneCell (Views.own 3 rfl) h.2 | exact Views.oneCell (Views.own 4 rfl) h.2 | exact Views.oneCell (Views.own 5 rfl) h.2 | exact Views.oneCell (by assumption) h.2) 6 rfl rfl ?_))
    | (refine wl rfl (op_storeC (o := 2) h rfl rfl K.sz_int (by first | rfl | assumption | exact Views.oneCell (Views.own 0 rfl) h.2 | exact Views.oneCell (Views.own 1 rfl) h.2 | exact Views.oneCell (Views.own 2 rfl) h.2 | exact Views.oneCell (Views.own 3 rfl) h.2 | exact Views.oneCell (Views.own 4 rfl) h.2 | exact Views.oneCell (Views.own 5 rfl) h.2 | exact Views.oneCell (by assumption) h.2) 0 rfl ?_))
    | (refine wl rfl (op_storeC (o := 2) h rfl rfl K.sz_int (by first | rfl | assumption | exact Views.oneCell (Views.own 0 rfl) h.2 | exact Views.oneCell (Views.own 1 rfl) h.2 | exact Views.oneCell (Views.own 2 rfl) h.2 | exact Views.oneCell (Views.own 3 rfl) h.2 | exact Views.oneCell (Views.own 4 rfl) h.2 | exact Views.oneCell (Views.own 5 rfl) h.2 | exact Views.oneCell (by assumption) h.2) 1 rfl ?_))
    | (refine wl rfl (op_storeC (o := 2) h rfl rfl K.sz_int (by first | rfl | assumption | exact Views.oneCell (Views.own 0 rfl) h.2 | exact Views.oneCell (Views.own 1 rfl) h.2 | exact Views.oneCell (Views.own 2 rfl) h.2 | exact Views.oneCell (Views.own 3 rfl) h.2 | exact Views.oneCell (Views.own 4 rfl) h.2 | exact Views.oneCell (Views.own 5 rfl) h.2 | exact Views.oneCell (by assumption) h.2) 2 rfl ?_))
    | (refine wl rfl (op_storeC (o := 2) h rfl rfl K.sz_int (by first | rfl | assumption | exact Views.oneCell (Views.own 0 rfl) h.2 | exact Views.oneCell (Views.own 1 rfl) h.2 | exact Views.oneCell (Views.own 2 rfl) h.2 | exact Views.oneCell (Views.own 3 rfl) h.2 | exact Views.oneCell (Views.own 4 rfl) h.2 | exact Views.oneCell (Views.own 5 rfl) h.2 | exact Views.oneCell (by assumption) h.2) 3 rfl ?_))
    | (refine wl rfl (op_storeC (o := 2) h rfl rfl K.sz_int (by first | rfl | assumption | exact Views.oneCell (Views.own 0 rfl) h.2 | exact Views.oneCell (Views.own 1 rfl) h.2 | exact Views.oneCell (Views.own 2 rfl) h.2 | exact Views.oneCell (Views.own 3 rfl) h.2 | exact Views.oneCell (Views.own 4 rfl) h.2 | exact Views.oneCell (Views.own 5 rfl) h.2 | exact Views.oneCell (by assumption) h.2) 4 rfl ?_))
    | (refine wl rfl (op_storeC (o := 2) h rfl rfl K.sz_int (by first | rfl | assumption | exact Views.oneCell (Views.own 0 rfl) h.2 | exact Views.oneCell (Views.own 1 rfl) h.2 | exact Views.oneCell (Views.own 2 rfl) h.2 | exact Views.oneCell (Views.own 3 rfl) h.2 | exact Views.oneCell (Views.own 4 rfl) h.2 | exact Views.oneCell (Views.own 5 rfl) h.2 | exact Views.oneCell (by assumption) h.2) 5 rfl ?_))
    | (refine wl rfl (op_storeC (o := 2) h rfl rfl K.sz_int (by first | rfl | assumption | exact Views.oneCell (Views.own 0 rfl) h.2 | exact Views.oneCell (Views.own 1 rfl) h.2 | exact Views.oneCell (Views.own 2 rfl) h.2 | exact Views.oneCell (Views.own 3 rfl) h.2 | exact Views.oneCell (Views.own 4 rfl) h.2 | exact Views.oneCell (Views.own 5 rfl) h.2 | exact Views.oneCell (by assumption) h.2) 6 rfl ?_))
  clear h a w; intro a w h
  (try simp only [List.set_cons_zero, List.set_cons_succ] at h)
  refine wnil ?_
  exact end0 h rfl ⟨(), rfl, DiskI_shut (vs := vs) (vw := vw) (D := D.crash m) (h.2.rid 3), trivial⟩
theorem disk_Crash_nil (s w : World) (mv : Value) (m : List UInt8) (F : List HItem) (hm : ViewsB F mv m) (hs : Sat s w F) :
    Calls P n_disk_Disk_Crash #[dnil, mv] w (Ret s (fun _ : Unit => .tuple #[]) (fun _ => F) (fun _ => True)) := by
  refine enter K.fn_disk_Disk_Crash rfl K.nt_disk_Disk_Crash rfl hs ?_
  clear hs w; intro a w h
  refine c_seq (c_region ?_)
  refine wl rfl (op_box h rfl rfl ?_)
  clear h a w; intro b3 a w h
  try simp only [Value.cells] at h
  refine wnil (c_then ?_)
  refine c_seq ?_
  refine c_seq (c_region ?_)
  refine wv h (r_move h rfl) rfl ?_
  clear h a w; intro a w h
  refine wv h (r_ptreq_nil h K.u_p_disk_Disk rfl rfl) rfl ?_
  clear h a w; intro a w h
  refine wnil (c_then ?_)
  refine c_true h rfl ?_
  refine c_ret ?_
  exact ret0 h rfl ⟨(), rfl, h.2.drop 1, trivial⟩

theorem cells8_get {l : List B64} {i : Nat} (h : i < l.length) : ∃ q, l[i]? = some q := ⟨l[i], by simp [h]⟩
theorem disk_Read (s w : World) (b : Nat) (D : Dk) (c : Int) (L : List HItem) (i : Nat) (hi : L[i]? = some (DiskI b D)) (hok : D.ok) (hs : Sat s w L) :
    Calls P n_disk_Disk_Read #[dp b, .int .i64 c] w (Ret s (fun v : Value => .tuple #[v, .int .i64 (D.eRead c)]) (fun v => OwnB v (D.vRead c) :: L) (fun _ => True)) := by
  refine atA i hi hs fun F hF hs2 => ?_
  clear hs hi hF
  replace hs := hs2
  clear hs2
  obtain ⟨-, -, -, -, hl2, hl3⟩ := hok
  refine enter K.fn_disk_Disk_Read rfl K.nt_disk_Disk_Read rfl hs ?_
  clear hs w; intro a w h
  refine c_seq (c_region ?_)
  refine wv h (r_assign h rfl) rfl ?_
  clear h a w; intro a w h
  refine wv h (r_assign h rfl) rfl ?_
  clear h a w; intro a w h
  refine wnil (c_then ?_)
  refine c_seq ?_
  refine c_block ?_
  refine c_seq (c_region ?_)
  refine wv h (r_move h rfl) rfl ?_
  clear h a w; intro a w h
  refine wv h (r_bin h rfl rfl (B.lss_int)) rfl ?_
  clear h a w; intro a w h
  refine wv h (r_move h rfl) rfl ?_
  clear h a w; intro a w h
  refine wvG h (by first | exact .t rfl | exact .f rfl | exact .gt rfl | exact .gf rfl) (fun hg => by (try simp only [↓gval_on hg, ↓gval_and hg] at h); (have hg2 := hg; (try simp only [Bool.and_eq_true, Bool.or_eq_true, Bool.not_eq_true', decide_eq_true_eq, decide_eq_false_iff_not] at hg2)); first | exact r_move h rfl) rfl ?_
  clear h a w; intro a w h
  refine wvG h (by first | exact .t rfl | exact .f rfl | exact .gt rfl | exact .gf rfl) (fun hg => by (try simp only [↓gval_on hg, ↓gval_and hg] at h); (have hg2 := hg; (try simp only [Bool.and_eq_true, Bool.or_eq_true, Bool.not_eq_true', decide_eq_true_eq, decide_eq_false_iff_not] at hg2)); first | exact r_move h rfl) rfl ?_
  clear h a w; intro a w h
  refine wcG h (by first | exact .t rfl | exact .f rfl | exact .gt rfl | exact .gf rfl) K.go_disk_Disk_Sectors (fun hg => by (try simp only [↓gval_on hg, ↓gval_and hg]); (have hg2 := hg; (try simp only [Bool.and_eq_true, Bool.or_eq_true, Bool.not_eq_true', decide_eq_true_eq, decide_eq_false_iff_not] at hg2)); exact ⟨_, rfl, disk_Sectors s _ _ _ _ 0 rfl h.2⟩) rfl ?_
  clear h a w; intro a w h
  refine wvG h (by first | exact .t rfl | exact .f rfl | exact .gt rfl | exact .gf rfl) (fun hg => by (try simp only [↓gval_on hg, ↓gval_and hg] at h); (have hg2 := hg; (try simp only [Bool.and_eq_true, Bool.or_eq_true, Bool.not_eq_true', decide_eq_true_eq, decide_eq_false_iff_not] at hg2)); first | exact r_bin h rfl rfl (B.geq_int)) rfl ?_
  clear h a w; intro a w h
  first
    | (refine wv h (r_pickA h rfl rfl rfl) rfl ?_)
    | (refine wv h (r_pickO h rfl rfl rfl) rfl ?_)
    | (refine wv h (r_pick_true h rfl rfl) rfl ?_)
    | (refine wv h (r_pick_false h rfl rfl) rfl ?_)
    | (refine wv h (r_pick h rfl rfl rfl) rfl ?_)
  clear h a w; intro a w h
  refine wv h (r_assign h rfl) rfl ?_
  clear h a w; intro a w h
  refine wnil (c_then ?_)
  first
   | refine c_condD h rfl (fun ht1 => ?_) (fun ht1 => ?_)
   | refine c_condP h rfl (by first | (simp only [Bool.and_eq_true, Bool.or_eq_true, Bool.not_eq_true', decide_eq_true_eq, decide_eq_false_iff_not, ne_eq, Bool.not_eq_eq_eq_not, Bool.not_true, beq_iff_eq, bne_iff_ne]; exact Iff.rfl) | exact Iff.rfl) (fun ht1 => ?_) (fun ht1 => ?_)
  ·
   as_aux_lemma =>
    refine c_seq (c_region ?_)
    refine wv h (r_assign h rfl) rfl ?_
    clear h a w; intro a w h
    refine wv h (r_assign h rfl) rfl ?_
    clear h a w; intro a w h
    refine wnil (c_then ?_)
    refine c_ret ?_
    have e : c < 0 ∨ (D.safe.length : Int) ≤ c := by omega
    exact ret2 h rfl rfl rfl ⟨_, by rw [Dk.eRead, if_pos e], by rw [Dk.vRead, if_pos (.inl e)]; exact h.addNilb.2, trivial⟩
  ·
   have e : ¬ (c < 0 ∨ (D.safe.length : Int) ≤ c) := by omega
   obtain ⟨k, rfl⟩ : ∃ k : Nat, c = (k : Int) := ⟨c.toNat, by omega⟩
   obtain ⟨vs, vw, h'⟩ := St_open h
   replace h := h'
   clear h'
   obtain ⟨p, hp⟩ := cells8_get (l := D.safe) (i := k) (by omega)
   have hpd : D.safe.getD k B64.zero = p := by rw [List.getD_eq_getElem?_getD, hp]; rfl
   refine c_seq (c_region ?_)
   refine wv h (r_move h rfl) rfl ?_
   clear h a w; intro a w h
   refine wv h (r_nilCheck h rfl) rfl ?_
   clear h a w; intro a w h
   refine wv h (r_fieldAddr h 3 rfl K.u_disk_Disk rfl K.sz_bool rfl rfl) rfl ?_
   clear h a w; intro a w h
   first
      | (refine wv h (r_ldN h rfl K.u_bool rfl 0 rfl rfl) rfl ?_)
      | (refine wv h (r_ldN h rfl K.u_bool rfl 1 rfl rfl) rfl ?_)
      | (refine wv h (r_ldN h rfl K.u_bool rfl 2 rfl rfl) rfl ?_)
      | (refine wv h (r_ldN h rfl K.u_bool rfl 3 rfl rfl) rfl ?_)
      | (refine wv h (r_ldN h rfl K.u_bool rfl 4 rfl rfl) rfl ?_)
      | (refine wv h (r_ldN h rfl K.u_bool rfl 5 rfl rfl) rfl ?_)
      | (refine wv h (r_ldN h rfl K.u_bool rfl 6 rfl rfl) rfl ?_)
      | (refine wv h (r_ldC (o := 3) h rfl K.u_bool rfl 0 rfl) rfl ?_)
      | (refine wv h (r_ldC (o := 3) h rfl K.u_bool rfl 1 rfl) rfl ?_)
      | (refine wv h (r_ldC (o := 3) h rfl K.u_bool rfl 2 rfl) rfl ?_)
      | (refine wv h (r_ldC (o := 3) h rfl K.u_bool rfl 3 rfl) rfl ?_)
      | (refine wv h (r_ldC (o := 3) h rfl K.u_bool rfl 4 rfl) rfl ?_)
      | (refine wv h (r_ldC (o := 3) h rfl K.u_bool rfl 5 rfl) rfl ?_)
      | (refine wv h (r_ldC (o := 3) h rfl K.u_bool rfl 6 rfl) rfl ?_)
      | (refine wv h (r_load h rfl K.u_bool rfl 0 rfl rfl) rfl ?_)
      | (refine wv h (r_load h rfl K.u_bool rfl 1 rfl rfl) rfl ?_)
      | (refine wv h (r_load h rfl K.u_bool rfl 2 rfl rfl) rfl ?_)
      | (refine wv h (r_load h rfl K.u_bool rfl 3 rfl rfl) rfl ?_)
      | (refine wv h (r_load h rfl K.u_bool rfl 4 rfl rfl) rfl ?_)
      | (refine wv h (r_load h rfl K.u_bool rfl 5 rfl rfl) rfl ?_)
      | (refine wv h (r_load1 h rfl K.u_bool rfl (by assumption)) rfl ?_)
   clear h a w; intro a w h
   refine wv h (r_assign h rfl) rfl ?_
   clear h a w; intro a w h
   refine wnil (c_then ?_)
   first
    | refine c_condD h rfl (fun ht2 => ?_) (fun ht2 => ?_)
    | refine c_condP h rfl (by first | (simp only [Bool.and_eq_true, Bool.or_eq_true, Bool.not_eq_true', decide_eq_true_eq, decide_eq_false_iff_not, ne_eq, Bool.not_eq_eq_eq_not, Bool.not_true, beq_iff_eq, bne_iff_ne]; exact Iff.rfl) | exact Iff.rfl) (fun ht2 => ?_) (fun ht2 => ?_)
   ·
    as_aux_lemma =>
     refine c_seq (c_region ?_)
     refine wv h (r_assign h rfl) rfl ?_
     clear h a w; intro a w h
     refine wv h (r_assign h rfl) rfl ?_
     clear h a w; intro a w h
     refine wnil (c_then ?_)
     refine c_ret ?_
     exact ret2 h rfl rfl rfl ⟨_, by rw [Dk.eRead, if_neg e, if_pos ht2], by rw [Dk.vRead, if_pos (.inr ht2)]; exact (St_shut h).addNilb.2, trivial⟩
   ·
    refine c_skip ?_
    refine b_normal ?_
    refine c_then ?_
    refine c_seq (c_region ?_)
    refine wv h (r_move h rfl) rfl ?_
    clear h a w; intro a w h
    refine wv h (r_nilCheck h rfl) rfl ?_
    clear h a w; intro a w h
    refine wv h (r_fieldAddr0 h rfl K.u_disk_Disk rfl K.sz_S_A64_uint8 rfl rfl) rfl ?_
    clear h a w; intro a w h
    first
        | (refine wv h (r_ldN h rfl K.u_S_A64_uint8 rfl 0 rfl rfl) rfl ?_)
        | (refine wv h (r_ldN h rfl K.u_S_A64_uint8 rfl 1 rfl rfl) rfl ?_)
        | (refine wv h (r_ldN h rfl K.u_S_A64_uint8 rfl 2 rfl rfl) rfl ?_)
        | (refine wv h (r_ldN h rfl K.u_S_A64_uint8 rfl 3 rfl rfl) rfl ?_)
        | (refine wv h (r_ldN h rfl K.u_S_A64_uint8 rfl 4 rfl rfl) rfl ?_)
        | (refine wv h (r_ldN h rfl K.u_S_A64_uint8 rfl 5 rfl rfl) rfl ?_)
        | (refine wv h (r_ldN h rfl K.u_S_A64_uint8 rfl 6 rfl rfl) rfl ?_)
        | (refine wv h (r_ldC (o := 0) h rfl K.u_S_A64_uint8 rfl 0 rfl) rfl ?_)
        | (refine wv h (r_ldC (o := 0) h rfl K.u_S_A64_uint8 rfl 1 rfl) rfl ?_)
        | (refine wv h (r_ldC (o := 0) h rfl K.u_S_A64_uint8 rfl 2 rfl) rfl ?_)
        | (refine wv h (r_ldC (o := 0) h rfl K.u_S_A64_uint8 rfl 3 rfl) rfl ?_)
        | (refine wv h (r_ldC (o := 0) h rfl K.u_S_A64_uint8 rfl 4 rfl) rfl ?_)
        | (refine wv h (r_ldC (o := 0) h rfl K.u_S_A64_uint8 rfl 5 rfl) rfl ?_)
        | (refine wv h (r_ldC (o := 0) h rfl K.u_S_A64_uint8 rfl 6 rfl) rfl ?_)
        | (refine wv h (r_load h rfl K.u_S_A64_uint8 rfl 0 rfl rfl) rfl ?_)
        | (refine wv h (r_load h rfl K.u_S_A64_uint8 rfl 1 rfl rfl) rfl ?_)
        | (refine wv h (r_load h rfl K.u_S_A64_uint8 rfl 2 rfl rfl) rfl ?_)
        | (refine wv h (r_load h rfl K.u_S_A64_uint8 rfl 3 rfl rfl) rfl ?_)
        | (refine wv h (r_load h rfl K.u_S_A64_uint8 rfl 4 rfl rfl) rfl ?_)
        | (refine wv h (r_load h rfl K.u_S_A64_uint8 rfl 5 rfl rfl) rfl ?_)
        | (refine wv h (r_load1 h rfl K.u_S_A64_uint8 rfl (by assumption)) rfl ?_)
    clear h a w; intro a w h
    refine wv h (r_move h rfl) rfl ?_
    clear h a w; intro a w h
    refine wv h (r_elP h rfl rfl K.u_S_A64_uint8 K.sz_A64_uint8 (by first | exact Views.own 0 rfl | exact Views.own 1 rfl | exact Views.own 2 rfl | exact Views.own 3 rfl | exact Views.own 4 rfl | exact Views.own 5 rfl | assumption | exact Views.of_drop 1 (by assumption) | exact Views.of_drop 2 (by assumption) | exact Views.of_drop 3 (by assumption) | exact Views.of_drop 4 (by assumption) | exact Views.of_drop 5 (by assumption) | exact Views.of_drop 6 (by assumption) | exact Views.of_drop 7 (by assumption) | exact Views.of_drop 8 (by assumption) | exact Views.of_drop 9 (by assumption) | exact Views.of_drop 10 (by assumption) | exact Views.of_drop 11 (by assumption) | exact Views.of_drop 12 (by assumption)) (by first | omega | (simp; done)) (by first | omega | (simp only [List.length_cons, List.length_nil]; omega) | (simp; done) | (simp; omega))) rfl ?_
    clear h a w; intro a w h
    first
        | (refine wv h (r_elM h rfl K.u_A64_uint8 rfl K.sz_A64_uint8 rfl (by first | exact Views.own 0 rfl | exact Views.own 1 rfl | exact Views.own 2 rfl | exact Views.own 3 rfl | exact Views.own 4 rfl | exact Views.own 5 rfl | assumption | exact Views.of_drop 1 (by assumption) | exact Views.of_drop 2 (by assumption) | exact Views.of_drop 3 (by assumption) | exact Views.of_drop 4 (by assumption) | exact Views.of_drop 5 (by assumption) | exact Views.of_drop 6 (by assumption) | exact Views.of_drop 7 (by assumption) | exact Views.of_drop 8 (by assumption) | exact Views.of_drop 9 (by assumption) | exact Views.of_drop 10 (by assumption) | exact Views.of_drop 11 (by assumption) | exact Views.of_drop 12 (by assumption)) (by assumption)) rfl ?_)
        | (refine wv h (r_elMd h rfl K.u_A64_uint8 rfl K.sz_A64_uint8 rfl (by first | exact Views.own 0 rfl | exact Views.own 1 rfl | exact Views.own 2 rfl | exact Views.own 3 rfl | exact Views.own 4 rfl | exact Views.own 5 rfl | assumption | exact Views.of_drop 1 (by assumption) | exact Views.of_drop 2 (by assumption) | exact Views.of_drop 3 (by assumption) | exact Views.of_drop 4 (by assumption) | exact Views.of_drop 5 (by assumption) | exact Views.of_drop 6 (by assumption) | exact Views.of_drop 7 (by assumption) | exact Views.of_drop 8 (by assumption) | exact Views.of_drop 9 (by assumption) | exact Views.of_drop 10 (by assumption) | exact Views.of_drop 11 (by assumption) | exact Views.of_drop 12 (by assumption)) (by first | omega | (simp only [List.length_cons, List.length_nil]; omega) | (simp; done) | (simp; omega))) rfl ?_)
    clear h a w; intro a w h
    refine wl rfl (op_alloc h K.z_A64_uint8 rfl ?_)
    clear h a w; intro b6 a w h
    rw [show (Value.agg (Array.replicate 64 (Value.int .u8 0))).cells = arr8 (List.replicate 64 0) from (arr8_zero 64).symm] at h
    first
        | (refine wl rfl (op_storeA8 h rfl rfl K.sz_A64_uint8 (by first | rfl | assumption | (simp; done) | (simp; omega) | omega) 0 rfl (by first | rfl | (simp [arr8]; done) | (simp [arr8]; omega) | (simp [arr8]; assumption)) ?_))
        | (refine wl rfl (op_storeA8 h rfl rfl K.sz_A64_uint8 (by first | rfl | assumption | (simp; done) | (simp; omega) | omega) 1 rfl (by first | rfl | (simp [arr8]; done) | (simp [arr8]; omega) | (simp [arr8]; assumption)) ?_))
        | (refine wl rfl (op_storeA8 h rfl rfl K.sz_A64_uint8 (by first | rfl | assumption | (simp; done) | (simp; omega) | omega) 2 rfl (by first | rfl | (simp [arr8]; done) | (simp [arr8]; omega) | (simp [arr8]; assumption)) ?_))
        | (refine wl rfl (op_storeA8 h rfl rfl K.sz_A64_uint8 (by first | rfl | assumption | (simp; done) | (simp; omega) | omega) 3 rfl (by first | rfl | (simp [arr8]; done) | (simp [arr8]; omega) | (simp [arr8]; assumption)) ?_))
        | (refine wl rfl (op_storeA8 h rfl rfl K.sz_A64_uint8 (by first | rfl | assumption | (simp; done) | (simp; omega) | omega) 4 rfl (by first | rfl | (simp [arr8]; done) | (simp [arr8]; omega) | (simp [arr8]; assumption)) ?_))
        | (refine wl rfl (op_storeA8 h rfl rfl K.sz_A64_uint8 (by first | rfl | assumption | (simp; done) | (simp; omega) | omega) 5 rfl (by first | rfl | (simp [arr8]; done) | (simp [arr8]; omega) | (simp [arr8]; assumption)) ?_))
    clear h a w; intro a w h
    (try simp only [List.set_cons_zero, List.set_cons_succ] at h)
    refine wnil (c_then ?_)
    refine c_seq ?_
    refine c_seq (c_region ?_)
    refine wv h (r_move h rfl) rfl ?_
    clear h a w; intro a w h
    refine wv h (r_nilCheck h rfl) rfl ?_
    clear h a w; intro a w h
    refine wv h (r_fieldAddr h 1 rfl K.u_disk_Disk rfl K.sz_S_disk_write rfl rfl) rfl ?_
    clear h a w; intro a w h
    first
        | (refine wv h (r_ldN h rfl K.u_S_disk_write rfl 0 rfl rfl) rfl ?_)
        | (refine wv h (r_ldN h rfl K.u_S_disk_write rfl 1 rfl rfl) rfl ?_)
        | (refine wv h (r_ldN h rfl K.u_S_disk_write rfl 2 rfl rfl) rfl ?_)
        | (refine wv h (r_ldN h rfl K.u_S_disk_write rfl 3 rfl rfl) rfl ?_)
        | (refine wv h (r_ldN h rfl K.u_S_disk_write rfl 4 rfl rfl) rfl ?_)
        | (refine wv h (r_ldN h rfl K.u_S_disk_write rfl 5 rfl rfl) rfl ?_)
        | (refine wv h (r_ldN h rfl K.u_S_disk_write rfl 6 rfl rfl) rfl ?_)
        | (refine wv h (r_ldC (o := 1) h rfl K.u_S_disk_write rfl 0 rfl) rfl ?_)
        | (refine wv h (r_ldC (o := 1) h rfl K.u_S_disk_write rfl 1 rfl) rfl ?_)
        | (refine wv h (r_ldC (o := 1) h rfl K.u_S_disk_write rfl 2 rfl) rfl ?_)
        | (refine wv h (r_ldC (o := 1) h rfl K.u_S_disk_write rfl 3 rfl) rfl ?_)
        | (refine wv h (r_ldC (o := 1) h rfl K.u_S_disk_write rfl 4 rfl) rfl ?_)
        | (refine wv h (r_ldC (o := 1) h rfl K.u_S_disk_write rfl 5 rfl) rfl ?_)
        | (refine wv h (r_ldC (o := 1) h rfl K.u_S_disk_write rfl 6 rfl) rfl ?_)
        | (refine wv h (r_load h rfl K.u_S_disk_write rfl 0 rfl rfl) rfl ?_)
        | (refine wv h (r_load h rfl K.u_S_disk_write rfl 1 rfl rfl) rfl ?_)
        | (refine wv h (r_load h rfl K.u_S_disk_write rfl 2 rfl rfl) rfl ?_)
        | (refine wv h (r_load h rfl K.u_S_disk_write rfl 3 rfl rfl) rfl ?_)
        | (refine wv h (r_load h rfl K.u_S_disk_write rfl 4 rfl rfl) rfl ?_)
        | (refine wv h (r_load h rfl K.u_S_disk_write rfl 5 rfl rfl) rfl ?_)
        | (refine wv h (r_load1 h rfl K.u_S_disk_write rfl (by assumption)) rfl ?_)
    clear h a w; intro a w h
    refine wv h (r_lenV h rfl K.u_S_disk_write (by first | exact Views.own 0 rfl | exact Views.own 1 rfl | exact Views.own 2 rfl | exact Views.own 3 rfl | exact Views.own 4 rfl | exact Views.own 5 rfl | assumption | exact Views.of_drop 1 (by assumption) | exact Views.of_drop 2 (by assumption) | exact Views.of_drop 3 (by assumption) | exact Views.of_drop 4 (by assumption) | exact Views.of_drop 5 (by assumption) | exact Views.of_drop 6 (by assumption) | exact Views.of_drop 7 (by assumption) | exact Views.of_drop 8 (by assumption) | exact Views.of_drop 9 (by assumption) | exact Views.of_drop 10 (by assumption) | exact Views.of_drop 11 (by assumption) | exact Views.of_drop 12 (by assumption))) rfl ?_
    clear h a w; intro a w h
    refine wv h (r_move h rfl) rfl ?_
    clear h a w; intro a w h
    refine wnil (c_then ?_)
    refine c_block ?_
    refine c_loopX h (X := Nat × B64) (fun x => [(0, dp b), (1, .int .i64 (k : Int)), (6, .pointer (some ⟨b6, 0, none⟩)), (33, vw), (34, .int .i64 (D.wet.length : Int)), (35, .int .i64 (x.1 : Int))])
      (fun x => Blk b6 (.cells (arr8 x.2.val) t_A64_uint8) :: DiskL b vs vw D ++ F) (fun x => x.1 ≤ D.wet.length ∧ Dk.look (D.wet.drop x.1) k x.2 = D.read k) (fun x => D.wet.length - x.1) (0, p) (h.keep [0, 1, 6, 33, 34, 35]) ⟨Nat.zero_le _, by rw [Dk.read, hpd]; rfl⟩ ?_
    clear h a w; intro x a w hx h
    obtain ⟨i, cur⟩ := x
    obtain ⟨hx1, hx2⟩ := hx
    dsimp only at hx1 hx2 h
    as_aux_lemma =>
     refine c_seq (c_region ?_)
     refine wv h (r_bin h rfl rfl (B.lss_int)) rfl ?_
     clear h a w; intro a w h
     refine wnil (c_then ?_)
     refine c_seq ?_
     first
      | refine c_condD h rfl (fun ht3 => ?_) (fun ht3 => ?_)
      | refine c_condP h rfl (by first | (simp only [Bool.and_eq_true, Bool.or_eq_true, Bool.not_eq_true', decide_eq_true_eq, decide_eq_false_iff_not, ne_eq, Bool.not_eq_eq_eq_not, Bool.not_true, beq_iff_eq, bne_iff_ne]; exact Iff.rfl) | exact Iff.rfl) (fun ht3 => ?_) (fun ht3 => ?_)
     ·
      obtain ⟨q, hq⟩ := cellsW_get (l := D.wet) (i := i) (by omega)
      rw [List.drop_eq_getElem_cons (by omega), show D.wet[i] = q from by rw [List.getElem?_eq_getElem (by omega)] at hq; simpa using hq, Dk.look] at hx2
      refine c_skip ?_
      refine c_then ?_
      refine c_seq ?_
      refine c_block ?_
      refine c_seq (c_region ?_)
      refine wv h (r_elP h rfl rfl K.u_S_disk_write K.sz_disk_write (by first | exact Views.own 0 rfl | exact Views.own 1 rfl | exact Views.own 2 rfl | exact Views.own 3 rfl | exact Views.own 4 rfl | exact Views.own 5 rfl | assumption | exact Views.of_drop 1 (by assumption) | exact Views.of_drop 2 (by assumption) | exact Views.of_drop 3 (by assumption) | exact Views.of_drop 4 (by assumption) | exact Views.of_drop 5 (by assumption) | exact Views.of_drop 6 (by assumption) | exact Views.of_drop 7 (by assumption) | exact Views.of_drop 8 (by assumption) | exact Views.of_drop 9 (by assumption) | exact Views.of_drop 10 (by assumption) | exact Views.of_drop 11 (by assumption) | exact Views.of_drop 12 (by assumption)) (by first | omega | (simp; done)) (by first | omega | (simp only [List.length_cons, List.length_nil]; omega) | (simp; done) | (simp; omega))) rfl ?_
      clear h a w; intro a w h
      first
            | (refine wv h (r_elM h rfl K.u_disk_write rfl K.sz_disk_write rfl (by first | exact Views.own 0 rfl | exact Views.own 1 rfl | exact Views.own 2 rfl | exact Views.own 3 rfl | exact Views.own 4 rfl | exact Views.own 5 rfl | assumption | exact Views.of_drop 1 (by assumption) | exact Views.of_drop 2 (by assumption) | exact Views.of_drop 3 (by assumption) | exact Views.of_drop 4 (by assumption) | exact Views.of_drop 5 (by assumption) | exact Views.of_drop 6 (by assumption) | exact Views.of_drop 7 (by assumption) | exact Views.of_drop 8 (by assumption) | exact Views.of_drop 9 (by assumption) | exact Views.of_drop 10 (by assumption) | exact Views.of_drop 11 (by assumption) | exact Views.of_drop 12 (by assumption)) (by assumption)) rfl ?_)
            | (refine wv h (r_elMd h rfl K.u_disk_write rfl K.sz_disk_write rfl (by first | exact Views.own 0 rfl | exact Views.own 1 rfl | exact Views.own 2 rfl | exact Views.own 3 rfl | exact Views.own 4 rfl | exact Views.own 5 rfl | assumption | exact Views.of_drop 1 (by assumption) | exact Views.of_drop 2 (by assumption) | exact Views.of_drop 3 (by assumption) | exact Views.of_drop 4 (by assumption) | exact Views.of_drop 5 (by assumption) | exact Views.of_drop 6 (by assumption) | exact Views.of_drop 7 (by assumption) | exact Views.of_drop 8 (by assumption) | exact Views.of_drop 9 (by assumption) | exact Views.of_drop 10 (by assumption) | exact Views.of_drop 11 (by assumption) | exact Views.of_drop 12 (by assumption)) (by first | omega | (simp only [List.length_cons, List.length_nil]; omega) | (simp; done) | (simp; omega))) rfl ?_)
      clear h a w; intro a w h
      refine wl rfl (op_alloc h K.z_disk_write rfl ?_)
      clear h a w; intro b8 a w h
      first
            | (refine wl rfl (op_stA h rfl rfl K.sz_disk_write (by first | exact Row.len _ | rfl | assumption | (simp; done) | (simp; omega) | omega) (by first | exact Row.one _ | exact bs_one _ | assumption | (simp; done) | (simp; (repeat' apply And.intro) <;> first | rfl | assumption)) 0 rfl (by first | rfl | assumption | (simp; done) | (simp; omega) | omega) ?_))
            | (refine wl rfl (op_stA h rfl rfl K.sz_disk_write (by first | exact Row.len _ | rfl | assumption | (simp; done) | (simp; omega) | omega) (by first | exact Row.one _ | exact bs_one _ | assumption | (simp; done) | (simp; (repeat' apply And.intro) <;> first | rfl | assumption)) 1 rfl (by first | rfl | assumption | (simp; done) | (simp; omega) | omega) ?_))
            | (refine wl rfl (op_stA h rfl rfl K.sz_disk_write (by first | exact Row.len _ | rfl | assumption | (simp; done) | (simp; omega) | omega) (by first | exact Row.one _ | exact bs_one _ | assumption | (simp; done) | (simp; (repeat' apply And.intro) <;> first | rfl | assumption)) 2 rfl (by first | rfl | assumption | (simp; done) | (simp; omega) | omega) ?_))
            | (refine wl rfl (op_stA h rfl rfl K.sz_disk_write (by first | exact Row.len _ | rfl | assumption | (simp; done) | (simp; omega) | omega) (by first | exact Row.one _ | exact bs_one _ | assumption | (simp; done) | (simp; (repeat' apply And.intro) <;> first | rfl | assumption)) 3 rfl (by first | rfl | assumption | (simp; done) | (simp; omega) | omega) ?_))
            | (refine wl rfl (op_stA h rfl rfl K.sz_disk_write (by first | exact Row.len _ | rfl | assumption | (simp; done) | (simp; omega) | omega) (by first | exact Row.one _ | exact bs_one _ | assumption | (simp; done) | (simp; (repeat' apply And.intro) <;> first | rfl | assumption)) 4 rfl (by first | rfl | assumption | (simp; done) | (simp; omega) | omega) ?_))
            | (refine wl rfl (op_stA h rfl rfl K.sz_disk_write (by first | exact Row.len _ | rfl | assumption | (simp; done) | (simp; omega) | omega) (by first | exact Row.one _ | exact bs_one _ | assumption | (simp; done) | (simp; (repeat' apply And.intro) <;> first | rfl | assumption)) 5 rfl (by first | rfl | assumption | (simp; done) | (simp; omega) | omega) ?_))
      clear h a w; intro a w h
      (try simp only [List.set_cons_zero, List.set_cons_succ] at h)
      refine wnil (c_then ?_)
      refine c_seq (c_region ?_)
      refine wv h (r_fieldAddr0 h rfl K.u_disk_write rfl K.sz_int rfl rfl) rfl ?_
      clear h a w; intro a w h
      first
            | (refine wv h (r_ldN h rfl K.u_int rfl 0 rfl rfl) rfl ?_)
            | (refine wv h (r_ldN h rfl K.u_int rfl 1 rfl rfl) rfl ?_)
            | (refine wv h (r_ldN h rfl K.u_int rfl 2 rfl rfl) rfl ?_)
            | (refine wv h (r_ldN h rfl K.u_int rfl 3 rfl rfl) rfl ?_)
            | (refine wv h (r_ldN h rfl K.u_int rfl 4 rfl rfl) rfl ?_)
            | (refine wv h (r_ldN h rfl K.u_int rfl 5 rfl rfl) rfl ?_)
            | (refine wv h (r_ldN h rfl K.u_int rfl 6 rfl rfl) rfl ?_)
            | (refine wv h (r_ldC (o := 0) h rfl K.u_int rfl 0 rfl) rfl ?_)
            | (refine wv h (r_ldC (o := 0) h rfl K.u_int rfl 1 rfl) rfl ?_)
            | (refine wv h (r_ldC (o := 0) h rfl K.u_int rfl 2 rfl) rfl ?_)
            | (refine wv h (r_ldC (o := 0) h rfl K.u_int rfl 3 rfl) rfl ?_)
            | (refine wv h (r_ldC (o := 0) h rfl K.u_int rfl 4 rfl) rfl ?_)
            | (refine wv h (r_ldC (o := 0) h rfl K.u_int rfl 5 rfl) rfl ?_)
            | (refine wv h (r_ldC (o := 0) h rfl K.u_int rfl 6 rfl) rfl ?_)
            | (refine wv h (r_load h rfl K.u_int rfl 0 rfl rfl) rfl ?_)
            | (refine wv h (r_load h rfl K.u_int rfl 1 rfl rfl) rfl ?_)
            | (refine wv h (r_load h rfl K.u_int rfl 2 rfl rfl) rfl ?_)
            | (refine wv h (r_load h rfl K.u_int rfl 3 rfl rfl) rfl ?_)
            | (refine wv h (r_load h rfl K.u_int rfl 4 rfl rfl) rfl ?_)
            | (refine wv h (r_load h rfl K.u_int rfl 5 rfl rfl) rfl ?_)
            | (refine wv h (r_load1 h rfl K.u_int rfl (by assumption)) rfl ?_)
      clear h a w; intro a w h
      refine wv h (r_move h rfl) rfl ?_
      clear h a w; intro a w h
      refine wv h (r_bin h rfl rfl (B.eql_int)) rfl ?_
      clear h a w; intro a w h
      refine wnil (c_then ?_)
      first
       | refine c_condD h rfl (fun ht4 => ?_) (fun ht4 => ?_)
       | refine c_condP h rfl (by first | (simp only [Bool.and_eq_true, Bool.or_eq_true, Bool.not_eq_true', decide_eq_true_eq, decide_eq_false_iff_not, ne_eq, Bool.not_eq_eq_eq_not, Bool.not_true, beq_iff_eq, bne_iff_ne]; exact Iff.rfl) | exact Iff.rfl) (fun ht4 => ?_) (fun ht4 => ?_)
      ·
       as_aux_lemma =>
        refine c_region ?_
        refine wv h (r_fieldAddr h 1 rfl K.u_disk_write rfl K.sz_A64_uint8 rfl rfl) rfl ?_
        clear h a w; intro a w h
        first
                | (refine wv h (r_ldF8 h rfl K.u_A64_uint8 rfl K.sz_A64_uint8 0 rfl rfl (by first | rfl | assumption | (simp; done) | (simp; omega) | omega)) rfl ?_)
                | (refine wv h (r_ldF8 h rfl K.u_A64_uint8 rfl K.sz_A64_uint8 1 rfl rfl (by first | rfl | assumption | (simp; done) | (simp; omega) | omega)) rfl ?_)
                | (refine wv h (r_ldF8 h rfl K.u_A64_uint8 rfl K.sz_A64_uint8 2 rfl rfl (by first | rfl | assumption | (simp; done) | (simp; omega) | omega)) rfl ?_)
                | (refine wv h (r_ldF8 h rfl K.u_A64_uint8 rfl K.sz_A64_uint8 3 rfl rfl (by first | rfl | assumption | (simp; done) | (simp; omega) | omega)) rfl ?_)
                | (refine wv h (r_ldF8 h rfl K.u_A64_uint8 rfl K.sz_A64_uint8 4 rfl rfl (by first | rfl | assumption | (simp; done) | (simp; omega) | omega)) rfl ?_)
                | (refine wv h (r_ldF8 h rfl K.u_A64_uint8 rfl K.sz_A64_uint8 5 rfl rfl (by first | rfl | assumption | (simp; done) | (simp; omega) | omega)) rfl ?_)
                | (refine wv h (r_ldH8 h rfl K.u_A64_uint8 rfl K.sz_A64_uint8 0 rfl (by first | rfl | assumption | (simp; done) | (simp; omega) | omega)) rfl ?_)
                | (refine wv h (r_ldH8 h rfl K.u_A64_uint8 rfl K.sz_A64_uint8 1 rfl (by first | rfl | assumption | (simp; done) | (simp; omega) | omega)) rfl ?_)
                | (refine wv h (r_ldH8 h rfl K.u_A64_uint8 rfl K.sz_A64_uint8 2 rfl (by first | rfl | assumption | (simp; done) | (simp; omega) | omega)) rfl ?_)
                | (refine wv h (r_ldH8 h rfl K.u_A64_uint8 rfl K.sz_A64_uint8 3 rfl (by first | rfl | assumption | (simp; done) | (simp; omega) | omega)) rfl ?_)
                | (refine wv h (r_ldH8 h rfl K.u_A64_uint8 rfl K.sz_A64_uint8 4 rfl (by first | rfl | assumption | (simp; done) | (simp; omega) | omega)) rfl ?_)
                | (refine wv h (r_ldH8 h rfl K.u_A64_uint8 rfl K.sz_A64_uint8 5 rfl (by first | rfl | assumption | (simp; done) | (simp; omega) | omega)) rfl ?_)
                | (refine wv h (r_loadCA h rfl K.u_A64_uint8 rfl K.sz_A64_uint8 (by assumption) (by first | rfl | assumption | (simp; done) | (simp; omega) | omega)) rfl ?_)
        clear h a w; intro a w h
        first
                | (refine wl rfl (op_storeA8 h rfl rfl K.sz_A64_uint8 (by first | rfl | assumption | (simp; done) | (simp; omega) | omega) 0 rfl (by first | rfl | (simp [arr8]; done) | (simp [arr8]; omega) | (simp [arr8]; assumption)) ?_))
                | (refine wl rfl (op_storeA8 h rfl rfl K.sz_A64_uint8 (by first | rfl | assumption | (simp; done) | (simp; omega) | omega) 1 rfl (by first | rfl | (simp [arr8]; done) | (simp [arr8]; omega) | (simp [arr8]; assumption)) ?_))
                | (refine wl rfl (op_storeA8 h rfl rfl K.sz_A64_uint8 (by first | rfl | assumption | (simp; done) | (simp; omega) | omega) 2 rfl (by first | rfl | (simp [arr8]; done) | (simp [arr8]; omega) | (simp [arr8]; assumption)) ?_))
                | (refine wl rfl (op_storeA8 h rfl rfl K.sz_A64_uint8 (by first | rfl | assumption | (simp; done) | (simp; omega) | omega) 3 rfl (by first | rfl | (simp [arr8]; done) | (simp [arr8]; omega) | (simp [arr8]; assumption)) ?_))
                | (refine wl rfl (op_storeA8 h rfl rfl K.sz_A64_uint8 (by first | rfl | assumption | (simp; done) | (simp; omega) | omega) 4 rfl (by first | rfl | (simp [arr8]; done) | (simp [arr8]; omega) | (simp [arr8]; assumption)) ?_))
                | (refine wl rfl (op_storeA8 h rfl rfl K.sz_A64_uint8 (by first | rfl | assumption | (simp; done) | (simp; omega) | omega) 5 rfl (by first | rfl | (simp [arr8]; done) | (simp [arr8]; omega) | (simp [arr8]; assumption)) ?_))
        clear h a w; intro a w h
        (try simp only [List.set_cons_zero, List.set_cons_succ] at h)
        refine wnil ?_
        refine b_normal ?_
        refine c_then ?_
        refine c_region ?_
        refine wv h (r_bin h rfl rfl (B.add_i64 (by omega) (by omega))) rfl ?_
        clear h a w; intro a w h
        refine wv h (r_move h rfl) rfl ?_
        clear h a w; intro a w h
        refine wnil ?_
        refine ⟨(i + 1, q.2), h.mem (fun z => z.drop 1) |>.keep [0, 1, 6, 33, 34, 35], ⟨by show i + 1 ≤ _; omega, ?_⟩, by show D.wet.length - (i + 1) < D.wet.length - i; omega⟩
        rw [if_pos (by omega)] at hx2; exact hx2
      ·
       refine c_skip ?_
       refine b_normal ?_
       refine c_then ?_
       refine c_region ?_
       refine wv h (r_bin h rfl rfl (B.add_i64 (by omega) (by omega))) rfl ?_
       clear h a w; intro a w h
       refine wv h (r_move h rfl) rfl ?_
       clear h a w; intro a w h
       refine wnil ?_
       refine ⟨(i + 1, cur), h.mem (fun z => z.drop 1) |>.keep [0, 1, 6, 33, 34, 35], ⟨by show i + 1 ≤ _; omega, ?_⟩, by show D.wet.length - (i + 1) < D.wet.length - i; omega⟩
       rw [if_neg (by omega)] at hx2; exact hx2
     ·
      obtain rfl : i = D.wet.length := by omega
      rw [List.drop_length, Dk.look] at hx2
      subst hx2
      refine c_exit ?_
      refine e_then ?_
      refine e_then ?_
      refine e_here ?_
      refine c_then ?_
      refine c_seq (c_region ?_)
      refine wv h (r_sliceA h rfl K.u_A64_uint8 K.sz_uint8 rfl) rfl ?_
      clear h a w; intro a w h
      refine wv h (r_assign h rfl) rfl ?_
      clear h a w; intro a w h
      refine wv h (r_assign h rfl) rfl ?_
      clear h a w; intro a w h
      refine wnil (c_then ?_)
      refine c_ret ?_
      have h3 := (h.toOwnb (D.read k).val (NF.zero _) rfl (by rw [B64.len']; rfl)).2
      rw [B64.len'] at h3
      refine ret2 h rfl rfl rfl ⟨_, by rw [Dk.eRead, if_neg e, if_neg ht2], ?_, trivial⟩
      rw [Dk.vRead, if_neg (by rintro (q | q); exact e q; exact ht2 q)]
      exact (DiskI_shut (h3.back 3 (by simp [DiskL]))).perm (.swap _ _ _)

theorem disk_Read_nil (s w : World) (c : Int) (F : List HItem) (hs : Sat s w F) :
    Calls P n_disk_Disk_Read #[dnil, .int .i64 c] w (Ret s (fun _ : Unit => .tuple #[.slice none 0 0, .int .i64 1]) (fun _ => F) (fun _ => True)) := by
  refine enter K.fn_disk_Disk_Read rfl K.nt_disk_Disk_Read rfl hs ?_
  clear hs w; intro a w h
  refine c_seq (c_region ?_)
  refine wv h (r_assign h rfl) rfl ?_
  clear h a w; intro a w h
  refine wv h (r_assign h rfl) rfl ?_
  clear h a w; intro a w h
  refine wnil (c_then ?_)
  refine c_seq ?_
  refine c_block ?_
  refine c_seq (c_region ?_)
  refine wv h (r_move h rfl) rfl ?_
  clear h a w; intro a w h
  refine wv h (r_bin h rfl rfl (B.lss_int)) rfl ?_
  clear h a w; intro a w h
  refine wv h (r_move h rfl) rfl ?_
  clear h a w; intro a w h
  refine wvG h (by first | exact .t rfl | exact .f rfl | exact .gt rfl | exact .gf rfl) (fun hg => by (try simp only [↓gval_on hg, ↓gval_and hg] at h); (have hg2 := hg; (try simp only [Bool.and_eq_true, Bool.or_eq_true, Bool.not_eq_true', decide_eq_true_eq, decide_eq_false_iff_not] at hg2)); first | exact r_move h rfl) rfl ?_
  clear h a w; intro a w h
  refine wvG h (by first | exact .t rfl | exact .f rfl | exact .gt rfl | exact .gf rfl) (fun hg => by (try simp only [↓gval_on hg, ↓gval_and hg] at h); (have hg2 := hg; (try simp only [Bool.and_eq_true, Bool.or_eq_true, Bool.not_eq_true', decide_eq_true_eq, decide_eq_false_iff_not] at hg2)); first | exact r_move h rfl) rfl ?_
  clear h a w; intro a w h
  refine wcG h (by first | exact .t rfl | exact .f rfl | exact .gt rfl | exact .gf rfl) K.go_disk_Disk_Sectors (fun hg => by (try simp only [↓gval_on hg, ↓gval_and hg]); (have hg2 := hg; (try simp only [Bool.and_eq_true, Bool.or_eq_true, Bool.not_eq_true', decide_eq_true_eq, decide_eq_false_iff_not] at hg2)); exact ⟨_, rfl, disk_Sectors_nil s _ _ h.2⟩) rfl ?_
  clear h a w; intro a w h
  refine wvG h (by first | exact .t rfl | exact .f rfl | exact .gt rfl | exact .gf rfl) (fun hg => by (try simp only [↓gval_on hg, ↓gval_and hg] at h); (have hg2 := hg; (try simp only [Bool.and_eq_true, Bool.or_eq_true, Bool.not_eq_true', decide_eq_true_eq, decide_eq_false_iff_not] at hg2)); first | exact r_bin h rfl rfl (B.geq_int)) rfl ?_
  clear h a w; intro a w h
  first
    | (refine wv h (r_pickA h rfl rfl rfl) rfl ?_)
    | (refine wv h (r_pickO h rfl rfl rfl) rfl ?_)
    | (refine wv h (r_pick_true h rfl rfl) rfl ?_)
    | (refine wv h (r_pick_false h rfl rfl) rfl ?_)
    | (refine wv h (r_pick h rfl rfl rfl) rfl ?_)
  clear h a w; intro a w h
  refine wv h (r_assign h rfl) rfl ?_
  clear h a w; intro a w h
  refine wnil (c_then ?_)
  first
   | refine c_condD h rfl (fun ht1 => ?_) (fun ht1 => ?_)
   | refine c_condP h rfl (by first | (simp only [Bool.and_eq_true, Bool.or_eq_true, Bool.not_eq_true', decide_eq_true_eq, decide_eq_false_iff_not, ne_eq, Bool.not_eq_eq_eq_not, Bool.not_true, beq_iff_eq, bne_iff_ne]; exact Iff.rfl) | exact Iff.rfl) (fun ht1 => ?_) (fun ht1 => ?_)
  ·
   as_aux_lemma =>
    refine c_seq (c_region ?_)
    refine wv h (r_assign h rfl) rfl ?_
    clear h a w; intro a w h
    refine wv h (r_assign h rfl) rfl ?_
    clear h a w; intro a w h
    refine wnil (c_then ?_)
    refine c_ret ?_
    exact ret2 h rfl rfl rfl ⟨(), rfl, h.2, trivial⟩
  ·
   exfalso; omega
theorem disk_Write_nil (s w : World) (c : Int) (pv : Value) (p : List UInt8) (F : List HItem) (hp : ViewsB F pv p) (hs : Sat s w F) :
    Calls P n_disk_Disk_Write #[dnil, .int .i64 c, pv] w (Ret s (fun _ : Unit => .int .i64 1) (fun _ => F) (fun _ => True)) := by
  refine enter K.fn_disk_Disk_Write rfl K.nt_disk_Disk_Write rfl hs ?_
  clear hs w; intro a w h
  refine c_seq (c_region ?_)
  refine wv h (r_assign h rfl) rfl ?_
  clear h a w; intro a w h
  refine wnil (c_then ?_)
  refine c_seq ?_
  refine c_seq (c_region ?_)
  refine wv h (r_move h rfl) rfl ?_
  clear h a w; intro a w h
  refine wv h (r_bin h rfl rfl (B.lss_int)) rfl ?_
  clear h a w; intro a w h
  refine wv h (r_move h rfl) rfl ?_
  clear h a w; intro a w h
  refine wvG h (by first | exact .t rfl | exact .f rfl | exact .gt rfl | exact .gf rfl) (fun hg => by (try simp only [↓gval_on hg, ↓gval_and hg] at h); (have hg2 := hg; (try simp only [Bool.and_eq_true, Bool.or_eq_true, Bool.not_eq_true', decide_eq_true_eq, decide_eq_false_iff_not] at hg2)); first | exact r_move h rfl) rfl ?_
  clear h a w; intro a w h
  refine wvG h (by first | exact .t rfl | exact .f rfl | exact .gt rfl | exact .gf rfl) (fun hg => by (try simp only [↓gval_on hg, ↓gval_and hg] at h); (have hg2 := hg; (try simp only [Bool.and_eq_true, Bool.or_eq_true, Bool.not_eq_true', decide_eq_true_eq, decide_eq_false_iff_not] at hg2)); first | exact r_move h rfl) rfl ?_
  clear h a w; intro a w h
  refine wcG h (by first | exact .t rfl | exact .f rfl | exact .gt rfl | exact .gf rfl) K.go_disk_Disk_Sectors (fun hg => by (try simp only [↓gval_on hg, ↓gval_and hg]); (have hg2 := hg; (try simp only [Bool.and_eq_true, Bool.or_eq_true, Bool.not_eq_true', decide_eq_true_eq, decide_eq_false_iff_not] at hg2)); exact ⟨_, rfl, disk_Sectors_nil s _ _ h.2⟩) rfl ?_
  clear h a w; intro a w h
  refine wvG h (by first | exact .t rfl | exact .f rfl | exact .gt rfl | exact .gf rfl) (fun hg => by (try simp only [↓gval_on hg, ↓gval_and hg] at h); (have hg2 := hg; (try simp only [Bool.and_eq_true, Bool.or_eq_true, Bool.not_eq_true', decide_eq_true_eq, decide_eq_false_iff_not] at hg2)); first | exact r_bin h rfl rfl (B.geq_int)) rfl ?_
  clear h a w; intro a w h
  first
    | (refine wv h (r_pickA h rfl rfl rfl) rfl ?_)
    | (refine wv h (r_pickO h rfl rfl rfl) rfl ?_)
    | (refine wv h (r_pick_true h rfl rfl) rfl ?_)
    | (refine wv h (r_pick_false h rfl rfl) rfl ?_)
    | (refine wv h (r_pick h rfl rfl rfl) rfl ?_)
  clear h a w; intro a w h
  refine wv h (r_move h rfl) rfl ?_
  clear h a w; intro a w h
  refine wvG h (by first | exact .t rfl | exact .f rfl | exact .gt rfl | exact .gf rfl) (fun hg => by (try simp only [↓gval_on hg, ↓gval_and hg] at h); (have hg2 := hg; (try simp only [Bool.and_eq_true, Bool.or_eq_true, Bool.not_eq_true', decide_eq_true_eq, decide_eq_false_iff_not] at hg2)); first | exact r_move h rfl) rfl ?_
  clear h a w; intro a w h
  refine wvG h (by first | exact .t rfl | exact .f rfl | exact .gt rfl | exact .gf rfl) (fun hg => by (try simp only [↓gval_on hg, ↓gval_and hg] at h); (have hg2 := hg; (try simp only [Bool.and_eq_true, Bool.or_eq_true, Bool.not_eq_true', decide_eq_true_eq, decide_eq_false_iff_not] at hg2)); first | exact r_lenB h rfl K.u_S_uint8 (by first | exact ViewsB.own 0 rfl | exact ViewsB.own 1 rfl | exact ViewsB.own 2 rfl | exact ViewsB.own 3 rfl | exact ViewsB.own 4 rfl | exact ViewsB.own 5 rfl | assumption | exact ViewsB.nil _ | exact ViewsB.arr 0 rfl (by first | assumption | rfl | (simp; done)) (Nat.le_refl _) (by simp [maxLen]) | exact ViewsB.arr 1 rfl (by first | assumption | rfl | (simp; done)) (Nat.le_refl _) (by simp [maxLen]) | exact ViewsB.arr 2 rfl (by first | assumption | rfl | (simp; done)) (Nat.le_refl _) (by simp [maxLen]) | exact ViewsB.arr 3 rfl (by first | assumption | rfl | (simp; done)) (Nat.le_refl _) (by simp [maxLen]) | exact ViewsB.arr 4 rfl (by first | assumption | rfl | (simp; done)) (Nat.le_refl _) (by simp [maxLen]) | exact ViewsB.of_drop 1 (by assumption) | exact ViewsB.of_drop 2 (by assumption) | exact ViewsB.of_drop 3 (by assumption) | exact ViewsB.of_drop 4 (by assumption) | exact ViewsB.of_drop 5 (by assumption) | exact ViewsB.of_drop 6 (by assumption) | exact ViewsB.of_drop 7 (by assumption) | exact ViewsB.of_drop 8 (by assumption) | exact ViewsB.of_drop 9 (by assumption) | exact ViewsB.of_drop 10 (by assumption) | exact ViewsB.of_drop 11 (by assumption) | exact ViewsB.of_drop 12 (by assumption) | exact ViewsB.sub (by first | exact ViewsB.own 0 rfl | exact ViewsB.own 1 rfl | exact ViewsB.own 2 rfl | exact ViewsB.own 3 rfl | exact ViewsB.own 4 rfl | exact ViewsB.own 5 rfl | assumption | exact ViewsB.nil _ | exact ViewsB.arr 0 rfl (by first | assumption | rfl | (simp; done)) (Nat.le_refl _) (by simp [maxLen]) | exact ViewsB.arr 1 rfl (by first | assumption | rfl | (simp; done)) (Nat.le_refl _) (by simp [maxLen]) | exact ViewsB.arr 2 rfl (by first | assumption | rfl | (simp; done)) (Nat.le_refl _) (by simp [maxLen]) | exact ViewsB.arr 3 rfl (by first | assumption | rfl | (simp; done)) (Nat.le_refl _) (by simp [maxLen]) | exact ViewsB.arr 4 rfl (by first | assumption | rfl | (simp; done)) (Nat.le_refl _) (by simp [maxLen]) | exact ViewsB.of_drop 1 (by assumption) | exact ViewsB.of_drop 2 (by assumption) | exact ViewsB.of_drop 3 (by assumption) | exact ViewsB.of_drop 4 (by assumption) | exact ViewsB.of_drop 5 (by assumption) | exact ViewsB.of_drop 6 (by assumption) | exact ViewsB.of_drop 7 (by assumption) | exact ViewsB.of_drop 8 (by assumption) | exact ViewsB.of_drop 9 (by assumption) | exact ViewsB.of_drop 10 (by assumption) | exact ViewsB.of_drop 11 (by assumption) | exact ViewsB.of_drop 12 (by assumption)) (by omega) (by first | omega | (simp; done) | (simp; omega)))) rfl ?_
  clear h a w; intro a w h
  refine wvG h (by first | exact .t rfl | exact .f rfl | exact .gt rfl | exact .gf rfl) (fun hg => by (try simp only [↓gval_on hg, ↓gval_and hg] at h); (have hg2 := hg; (try simp only [Bool.and_eq_true, Bool.or_eq_true, Bool.not_eq_true', decide_eq_true_eq, decide_eq_false_iff_not] at hg2)); first | exact r_bin h rfl rfl (B.gtr_int)) rfl ?_
  clear h a w; intro a w h
  first
    | (refine wv h (r_pickA h rfl rfl rfl) rfl ?_)
    | (refine wv h (r_pickO h rfl rfl rfl) rfl ?_)
    | (refine wv h (r_pick_true h rfl rfl) rfl ?_)
    | (refine wv h (r_pick_false h rfl rfl) rfl ?_)
    | (refine wv h (r_pick h rfl rfl rfl) rfl ?_)
  clear h a w; intro a w h
  refine wnil (c_then ?_)
  first
   | refine c_condD h rfl (fun ht1 => ?_) (fun ht1 => ?_)
   | refine c_condP h rfl (by first | (simp only [Bool.and_eq_true, Bool.or_eq_true, Bool.not_eq_true', decide_eq_true_eq, decide_eq_false_iff_not, ne_eq, Bool.not_eq_eq_eq_not, Bool.not_true, beq_iff_eq, bne_iff_ne]; exact Iff.rfl) | exact Iff.rfl) (fun ht1 => ?_) (fun ht1 => ?_)
  ·
   as_aux_lemma =>
    refine c_seq (c_region ?_)
    refine wv h (r_assign h rfl) rfl ?_
    clear h a w; intro a w h
    refine wnil (c_then ?_)
    refine c_ret ?_
    exact ret1 h rfl rfl ⟨(), rfl, h.2, trivial⟩
  ·
   exfalso; omega
end Go.Proofs.K
