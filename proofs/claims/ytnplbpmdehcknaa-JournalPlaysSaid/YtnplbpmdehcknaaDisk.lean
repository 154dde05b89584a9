/- The contracts of package disk: what a disk tells, an act. -/
import Derived.Test.YtnplbpmdehcknaaTab
import Derived.Test.YtnplbpmdehcknaaDiskPure
set_option linter.unusedVariables false
set_option linter.unusedSimpArgs false
set_option maxRecDepth 10000
set_option maxHeartbeats 2000000
namespace Go.Proofs.K
open Go.Sl

/-- a disk: its block, and its two rows -/
def DiskL (b : Nat) (vs vw : Value) (D : Dk) : List HItem :=
  [Blk b (.cells ⟨[vs, vw, .int .i64 D.left, .bool D.off, .int .i64 D.acts]⟩ t_disk_Disk), OwnM 64 cells8 vs D.safe, OwnM 65 cellsW vw D.wet]
def DiskI (b : Nat) (D : Dk) : HItem := Ex fun x : Value × Value => Sep (DiskL b x.1 x.2 D)
theorem DiskI_open {s w : World} {b : Nat} {D : Dk} {F : List HItem} (h : Sat s w (DiskI b D :: F)) : ∃ vs vw, Sat s w (DiskL b vs vw D ++ F) := by
  obtain ⟨⟨vs, vw⟩, h⟩ := h.unex
  exact ⟨vs, vw, h.unsep⟩
theorem DiskI_shut {s w : World} {b : Nat} {D : Dk} {F : List HItem} {vs vw : Value} (h : Sat s w (DiskL b vs vw D ++ F)) : Sat s w (DiskI b D :: F) :=
  Sat.ex (vs, vw) (Sat.sep h)
theorem St_open {n : Nat} {s w : World} {a : Act} {E : List (Nat × Value)} {b : Nat} {D : Dk} {F : List HItem} (h : St n s a w E (DiskI b D :: F)) : ∃ vs vw, St n s a w E (DiskL b vs vw D ++ F) := by
  obtain ⟨vs, vw, q⟩ := DiskI_open h.2
  exact ⟨vs, vw, h.1, q⟩
theorem St_shut {n : Nat} {s w : World} {a : Act} {E : List (Nat × Value)} {b : Nat} {D : Dk} {F : List HItem} {vs vw : Value} (h : St n s a w E (DiskL b vs vw D ++ F)) : St n s a w E (DiskI b D :: F) := ⟨h.1, DiskI_shut h.2⟩

abbrev dp (b : Nat) : Value := .pointer (some ⟨b, 0, none⟩)
abbrev dnil : Value := .pointer none

theorem disk_Sectors (s w : World) (b : Nat) (D : Dk) (L : List HItem) (i : Nat) (hi : L[i]? = some (DiskI b D)) (hs : Sat s w L) :
    Calls P n_disk_Disk_Sectors #[dp b] w (Ret s (fun _ : Unit => .int .i64 (D.safe.length : Int)) (fun _ => L) (fun _ => True)) := by
  refine atS i hi hs fun F hF hs2 => ?_
  clear hs hi
  obtain ⟨vs, vw, hs⟩ := DiskI_open hs2
  clear hs2
  refine enter K.fn_disk_Disk_Sectors rfl K.nt_disk_Disk_Sectors rfl hs ?_
  clear hs w; intro a w h
  refine c_seq (c_region ?_)
  refine wv h (r_assign h rfl) rfl ?_
  clear h a w; intro a w h
  refine wnil (c_then ?_)
  refine c_seq ?_
  refine c_seq (c_region ?_)
  refine wv h (r_move h rfl) rfl ?_
  clear h a w; intro a w h
  refine wv h (r_ptreq_nil h K.u_p_disk_Disk rfl rfl) rfl ?_
  clear h a w; intro a w h
  refine wnil (c_then ?_)
  refine c_false h rfl ?_
  refine c_skip ?_
  refine c_then ?_
  refine c_seq (c_region ?_)
  refine wv h (r_move h rfl) rfl ?_
  clear h a w; intro a w h
  refine wv h (r_nilCheck h rfl) rfl ?_
  clear h a w; intro a w h
  refine wv h (r_fieldAddr0 h rfl K.u_disk_Disk rfl K.sz_S_A64_uint8 rfl rfl) rfl ?_
  clear h a w; intro a w h
  first
    | (refine wv h (r_ldN h rfl K.u_S_A64_uint8 rfl 0 rfl rfl) rfl ?_)
    | (refine wv h (r_ldN h rfl K.u_S_A64_uint8 rfl 1 rfl rfl) rfl ?_)
    | (refine wv h (r_ldN h rfl K.u_S_A64_uint8 rfl 2 rfl rfl) rfl ?_)
    | (refine wv h (r_ldN h rfl K.u_S_A64_uint8 rfl 3 rfl rfl) rfl ?_)
    | (refine wv h (r_ldN h rfl K.u_S_A64_uint8 rfl 4 rfl rfl) rfl ?_)
    | (refine wv h (r_ldN h rfl K.u_S_A64_uint8 rfl 5 rfl rfl) rfl ?_)
    | (refine wv h (r_ldN h rfl K.u_S_A64_uint8 rfl 6 rfl rfl) rfl ?_)
    | (refine wv h (r_load h rfl K.u_S_A64_uint8 rfl 0 rfl rfl) rfl ?_)
    | (refine wv h (r_load h rfl K.u_S_A64_uint8 rfl 1 rfl rfl) rfl ?_)
    | (refine wv h (r_load h rfl K.u_S_A64_uint8 rfl 2 rfl rfl) rfl ?_)
    | (refine wv h (r_load h rfl K.u_S_A64_uint8 rfl 3 rfl rfl) rfl ?_)
    | (refine wv h (r_load h rfl K.u_S_A64_uint8 rfl 4 rfl rfl) rfl ?_)
    | (refine wv h (r_load h rfl K.u_S_A64_uint8 rfl 5 rfl rfl) rfl ?_)
    | (refine wv h (r_load1 h rfl K.u_S_A64_uint8 rfl (by assumption)) rfl ?_)
  clear h a w; intro a w h
  refine wv h (r_lenV h rfl K.u_S_A64_uint8 (by first | exact Views.own 0 rfl | exact Views.own 1 rfl | exact Views.own 2 rfl | exact Views.own 3 rfl | exact Views.own 4 rfl | exact Views.own 5 rfl | assumption | exact Views.cons (by assumption) _ | exact Views.cons (Views.cons (by assumption) _) _ | exact Views.cons (Views.cons (Views.cons (by assumption) _) _) _ | exact Views.cons (Views.cons (Views.cons (Views.cons (by assumption) _) _) _) _)) rfl ?_
  clear h a w; intro a w h
  refine wv h (r_assign h rfl) rfl ?_
  clear h a w; intro a w h
  refine wnil (c_then ?_)
  refine c_ret ?_
  exact ret1 h rfl rfl ⟨(), rfl, DiskI_shut h.2, trivial⟩
theorem disk_Sectors_nil (s w : World) (F : List HItem) (hs : Sat s w F) :
    Calls P n_disk_Disk_Sectors #[dnil] w (Ret s (fun _ : Unit => .int .i64 0) (fun _ => F) (fun _ => True)) := by
  refine enter K.fn_disk_Disk_Sectors rfl K.nt_disk_Disk_Sectors rfl hs ?_
  clear hs w; intro a w h
  refine c_seq (c_region ?_)
  refine wv h (r_assign h rfl) rfl ?_
  clear h a w; intro a w h
  refine wnil (c_then ?_)
  refine c_seq ?_
  refine c_seq (c_region ?_)
  refine wv h (r_move h rfl) rfl ?_
  clear h a w; intro a w h
  refine wv h (r_ptreq_nil h K.u_p_disk_Disk rfl rfl) rfl ?_
  clear h a w; intro a w h
  refine wnil (c_then ?_)
  refine c_true h rfl ?_
  refine c_seq (c_region ?_)
  refine wv h (r_assign h rfl) rfl ?_
  clear h a w; intro a w h
  refine wnil (c_then ?_)
  refine c_ret ?_
  exact ret1 h rfl rfl ⟨(), rfl, h.2, trivial⟩

theorem disk_On (s w : World) (b : Nat) (D : Dk) (L : List HItem) (i : Nat) (hi : L[i]? = some (DiskI b D)) (hs : Sat s w L) :
    Calls P n_disk_Disk_On #[dp b] w (Ret s (fun _ : Unit => .bool (!D.off)) (fun _ => L) (fun _ => True)) := by
  refine atS i hi hs fun F hF hs2 => ?_
  clear hs hi
  obtain ⟨vs, vw, hs⟩ := DiskI_open hs2
  clear hs2
  refine enter K.fn_disk_Disk_On rfl K.nt_disk_Disk_On rfl hs ?_
  clear hs w; intro a w h
  refine c_seq (c_region ?_)
  refine wv h (r_assign h rfl) rfl ?_
  clear h a w; intro a w h
  refine wnil (c_then ?_)
  refine c_seq (c_region ?_)
  refine wv h (r_move h rfl) rfl ?_
  clear h a w; intro a w h
  refine wv h (r_ptrne_nil h K.u_p_disk_Disk rfl rfl) rfl ?_
  clear h a w; intro a w h
  refine wv h (r_move h rfl) rfl ?_
  clear h a w; intro a w h
  refine wvG h (by first | exact .t rfl | exact .f rfl | exact .gt rfl | exact .gf rfl) (fun hg => by (try simp only [gval_on hg, gval_and hg] at h); (have hg2 := hg; (try simp only [Bool.and_eq_true, Bool.or_eq_true, Bool.not_eq_true', decide_eq_true_eq, decide_eq_false_iff_not] at hg2)); first | exact r_move h rfl) rfl ?_
  clear h a w; intro a w h
  refine wvG h (by first | exact .t rfl | exact .f rfl | exact .gt rfl | exact .gf rfl) (fun hg => by (try simp only [gval_on hg, gval_and hg] at h); (have hg2 := hg; (try simp only [Bool.and_eq_true, Bool.or_eq_true, Bool.not_eq_true', decide_eq_true_eq, decide_eq_false_iff_not] at hg2)); first | exact r_nilCheck h rfl) rfl ?_
  clear h a w; intro a w h
  refine wvG h (by first | exact .t rfl | exact .f rfl | exact .gt rfl | exact .gf rfl) (fun hg => by (try simp only [gval_on hg, gval_and hg] at h); (have hg2 := hg; (try simp only [Bool.and_eq_true, Bool.or_eq_true, Bool.not_eq_true', decide_eq_true_eq, decide_eq_false_iff_not] at hg2)); first | exact r_fieldAddr h 3 rfl K.u_disk_Disk rfl K.sz_bool rfl rfl) rfl ?_
  clear h a w; intro a w h
  refine wvG h (by first | exact .t rfl | exact .f rfl | exact .gt rfl | exact .gf rfl) (fun hg => by (try simp only [gval_on hg, gval_and hg] at h); (have hg2 := hg; (try simp only [Bool.and_eq_true, Bool.or_eq_true, Bool.not_eq_true', decide_eq_true_eq, decide_eq_false_iff_not] at hg2)); first | exact r_ldN h rfl K.u_bool rfl 0 rfl rfl | exact r_ldN h rfl K.u_bool rfl 1 rfl rfl | exact r_ldN h rfl K.u_bool rfl 2 rfl rfl | exact r_ldN h rfl K.u_bool rfl 3 rfl rfl | exact r_ldN h rfl K.u_bool rfl 4 rfl rfl | exact r_ldN h rfl K.u_bool rfl 5 rfl rfl | exact r_ldN h rfl K.u_bool rfl 6 rfl rfl | exact r_load h rfl K.u_bool rfl 0 rfl rfl | exact r_load h rfl K.u_bool rfl 1 rfl rfl | exact r_load h rfl K.u_bool rfl 2 rfl rfl | exact r_load h rfl K.u_bool rfl 3 rfl rfl | exact r_load h rfl K.u_bool rfl 4 rfl rfl | exact r_load h rfl K.u_bool rfl 5 rfl rfl | exact r_load1 h rfl K.u_bool rfl (by assumption)) rfl ?_
  clear h a w; intro a w h
  refine wvG h (by first | exact .t rfl | exact .f rfl | exact .gt rfl | exact .gf rfl) (fun hg => by (try simp only [gval_on hg, gval_and hg] at h); (have hg2 := hg; (try simp only [Bool.and_eq_true, Bool.or_eq_true, Bool.not_eq_true', decide_eq_true_eq, decide_eq_false_iff_not] at hg2)); first | exact r_not h rfl) rfl ?_
  clear h a w; intro a w h
  first
    | (refine wv h (r_pickA h rfl rfl rfl) rfl ?_)
    | (refine wv h (r_pickO h rfl rfl rfl) rfl ?_)
    | (refine wv h (r_pick_true h rfl rfl) rfl ?_)
    | (refine wv h (r_pick_false h rfl rfl) rfl ?_)
    | (refine wv h (r_pick h rfl rfl rfl) rfl ?_)
  clear h a w; intro a w h
  refine wv h (r_assign h rfl) rfl ?_
  clear h a w; intro a w h
  refine wnil (c_then ?_)
  refine c_ret ?_
  exact ret1 h rfl rfl ⟨(), by simp, DiskI_shut h.2, trivial⟩
theorem disk_On_nil (s w : World) (F : List HItem) (hs : Sat s w F) :
    Calls P n_disk_Disk_On #[dnil] w (Ret s (fun _ : Unit => .bool false) (fun _ => F) (fun _ => True)) := by
  refine enter K.fn_disk_Disk_On rfl K.nt_disk_Disk_On rfl hs ?_
  clear hs w; intro a w h
  refine c_seq (c_region ?_)
  refine wv h (r_assign h rfl) rfl ?_
  clear h a w; intro a w h
  refine wnil (c_then ?_)
  refine c_seq (c_region ?_)
  refine wv h (r_move h rfl) rfl ?_
  clear h a w; intro a w h
  refine wv h (r_ptrne_nil h K.u_p_disk_Disk rfl rfl) rfl ?_
  clear h a w; intro a w h
  refine wv h (r_move h rfl) rfl ?_
  clear h a w; intro a w h
  refine wvs h rfl rfl ?_
  clear h a w; intro a w h
  refine wvs h rfl rfl ?_
  clear h a w; intro a w h
  refine wvs h rfl rfl ?_
  clear h a w; intro a w h
  refine wvs h rfl rfl ?_
  clear h a w; intro a w h
  refine wvs h rfl rfl ?_
  clear h a w; intro a w h
  first
    | (refine wv h (r_pickA h rfl rfl rfl) rfl ?_)
    | (refine wv h (r_pickO h rfl rfl rfl) rfl ?_)
    | (refine wv h (r_pick_true h rfl rfl) rfl ?_)
    | (refine wv h (r_pick_false h rfl rfl) rfl ?_)
    | (refine wv h (r_pick h rfl rfl rfl) rfl ?_)
  clear h a w; intro a w h
  refine wv h (r_assign h rfl) rfl ?_
  clear h a w; intro a w h
  refine wnil (c_then ?_)
  refine c_ret ?_
  exact ret1 h rfl rfl ⟨(), rfl, h.2, trivial⟩

theorem disk_act (s w : World) (b : Nat) (D : Dk) (L : List HItem) (i : Nat) (hi : L[i]? = some (DiskI b D)) (hok : D.ok) (hs : Sat s w L) :
    Calls P n_disk_Disk_act #[dp b] w (Ret s (fun _ : Unit => .bool D.goes) (fun _ => L.set i (DiskI b D.act)) (fun _ => True)) := by
  obtain ⟨h1, h2, h3, h4, h5, h6⟩ := hok
  refine at0 i hi hs fun F hF hs2 => ?_
  clear hs hi
  obtain ⟨vs, vw, hs⟩ := DiskI_open hs2
  clear hs2
  refine enter K.fn_disk_Disk_act rfl K.nt_disk_Disk_act rfl hs ?_
  clear hs w; intro a w h
  refine c_seq (c_region ?_)
  refine wv h (r_assign h rfl) rfl ?_
  clear h a w; intro a w h
  refine wnil (c_then ?_)
  refine c_seq ?_
  refine c_seq (c_region ?_)
  refine wv h (r_move h rfl) rfl ?_
  clear h a w; intro a w h
  refine wv h (r_nilCheck h rfl) rfl ?_
  clear h a w; intro a w h
  refine wv h (r_fieldAddr h 3 rfl K.u_disk_Disk rfl K.sz_bool rfl rfl) rfl ?_
  clear h a w; intro a w h
  first
    | (refine wv h (r_ldN h rfl K.u_bool rfl 0 rfl rfl) rfl ?_)
    | (refine wv h (r_ldN h rfl K.u_bool rfl 1 rfl rfl) rfl ?_)
    | (refine wv h (r_ldN h rfl K.u_bool rfl 2 rfl rfl) rfl ?_)
    | (refine wv h (r_ldN h rfl K.u_bool rfl 3 rfl rfl) rfl ?_)
    | (refine wv h (r_ldN h rfl K.u_bool rfl 4 rfl rfl) rfl ?_)
    | (refine wv h (r_ldN h rfl K.u_bool rfl 5 rfl rfl) rfl ?_)
    | (refine wv h (r_ldN h rfl K.u_bool rfl 6 rfl rfl) rfl ?_)
    | (refine wv h (r_load h rfl K.u_bool rfl 0 rfl rfl) rfl ?_)
    | (refine wv h (r_load h rfl K.u_bool rfl 1 rfl rfl) rfl ?_)
    | (refine wv h (r_load h rfl K.u_bool rfl 2 rfl rfl) rfl ?_)
    | (refine wv h (r_load h rfl K.u_bool rfl 3 rfl rfl) rfl ?_)
    | (refine wv h (r_load h rfl K.u_bool rfl 4 rfl rfl) rfl ?_)
    | (refine wv h (r_load h rfl K.u_bool rfl 5 rfl rfl) rfl ?_)
    | (refine wv h (r_load1 h rfl K.u_bool rfl (by assumption)) rfl ?_)
  clear h a w; intro a w h
  refine wnil (c_then ?_)
  first
   | refine c_condD h rfl (fun ht1 => ?_) (fun ht1 => ?_)
   | refine c_condP h rfl (by first | (simp only [Bool.and_eq_true, Bool.or_eq_true, Bool.not_eq_true', decide_eq_true_eq, decide_eq_false_iff_not, ne_eq, Bool.not_eq_eq_eq_not, Bool.not_true, beq_iff_eq, bne_iff_ne]; exact Iff.rfl) | exact Iff.rfl) (fun ht1 => ?_) (fun ht1 => ?_)
  ·
   as_aux_lemma =>
    refine c_seq (c_region ?_)
    refine wv h (r_assign h rfl) rfl ?_
    clear h a w; intro a w h
    refine wnil (c_then ?_)
    refine c_ret ?_
    have e : D.act = D := by rw [Dk.act, if_pos ht1]
    exact ret1 h rfl rfl ⟨(), by simp [Dk.goes, ht1], by rw [e]; exact DiskI_shut h.2, trivial⟩
  ·
   refine c_skip ?_
   refine c_then ?_
   refine c_seq (c_region ?_)
   refine wv h (r_move h rfl) rfl ?_
   clear h a w; intro a w h
   refine wv h (r_nilCheck h rfl) rfl ?_
   clear h a w; intro a w h
   refine wv h (r_fieldAddr h 4 rfl K.u_disk_Disk rfl K.sz_int rfl rfl) rfl ?_
   clear h a w; intro a w h
   first
      | (refine wv h (r_ldN h rfl K.u_int rfl 0 rfl rfl) rfl ?_)
      | (refine wv h (r_ldN h rfl K.u_int rfl 1 rfl rfl) rfl ?_)
      | (refine wv h (r_ldN h rfl K.u_int rfl 2 rfl rfl) rfl ?_)
      | (refine wv h (r_ldN h rfl K.u_int rfl 3 rfl rfl) rfl ?_)
      | (refine wv h (r_ldN h rfl K.u_int rfl 4 rfl rfl) rfl ?_)
      | (refine wv h (r_ldN h rfl K.u_int rfl 5 rfl rfl) rfl ?_)
      | (refine wv h (r_ldN h rfl K.u_int rfl 6 rfl rfl) rfl ?_)
      | (refine wv h (r_load h rfl K.u_int rfl 0 rfl rfl) rfl ?_)
      | (refine wv h (r_load h rfl K.u_int rfl 1 rfl rfl) rfl ?_)
      | (refine wv h (r_load h rfl K.u_int rfl 2 rfl rfl) rfl ?_)
      | (refine wv h (r_load h rfl K.u_int rfl 3 rfl rfl) rfl ?_)
      | (refine wv h (r_load h rfl K.u_int rfl 4 rfl rfl) rfl ?_)
      | (refine wv h (r_load h rfl K.u_int rfl 5 rfl rfl) rfl ?_)
      | (refine wv h (r_load1 h rfl K.u_int rfl (by assumption)) rfl ?_)
   clear h a w; intro a w h
   refine wv h (r_bin h rfl rfl (B.add_i64 (by omega) (by omega))) rfl ?_
   clear h a w; intro a w h
   refine wv h (r_nilCheck h rfl) rfl ?_
   clear h a w; intro a w h
   refine wv h (r_fieldAddr h 4 rfl K.u_disk_Disk rfl K.sz_int rfl rfl) rfl ?_
   clear h a w; intro a w h
   first
      | (refine wl rfl (op_storeN h rfl rfl K.sz_int (by first | rfl | assumption | exact Views.oneCell (Views.own 0 rfl) h.2 | exact Views.oneCell (Views.own 1 rfl) h.2 | exact Views.oneCell (Views.own 2 rfl) h.2 | exact Views.oneCell (Views.own 3 rfl) h.2 | exact Views.oneCell (Views.own 4 rfl) h.2 | exact Views.oneCell (Views.own 5 rfl) h.2 | exact Views.oneCell (by assumption) h.2) 0 rfl rfl ?_))
      | (refine wl rfl (op_storeN h rfl rfl K.sz_int (by first | rfl | assumption | exact Views.oneCell (Views.own 0 rfl) h.2 | exact Views.oneCell (Views.own 1 rfl) h.2 | exact Views.oneCell (Views.own 2 rfl) h.2 | exact Views.oneCell (Views.own 3 rfl) h.2 | exact Views.oneCell (Views.own 4 rfl) h.2 | exact Views.oneCell (Views.own 5 rfl) h.2 | exact Views.oneCell (by assumption) h.2) 1 rfl rfl ?_))
      | (refine wl rfl (op_storeN h rfl rfl K.sz_int (by first | rfl | assumption | exact Views.oneCell (Views.own 0 rfl) h.2 | exact Views.oneCell (Views.own 1 rfl) h.2 | exact Views.oneCell (Views.own 2 rfl) h.2 | exact Views.oneCell (Views.own 3 rfl) h.2 | exact Views.oneCell (Views.own 4 rfl) h.2 | exact Views.oneCell (Views.own 5 rfl) h.2 | exact Views.oneCell (by assumption) h.2) 2 rfl rfl ?_))
      | (refine wl rfl (op_storeN h rfl rfl K.sz_int (by first | rfl | assumption | exact Views.oneCell (Views.own 0 rfl) h.2 | exact Views.oneCell (Views.own 1 rfl) h.2 | exact Views.oneCell (Views.own 2 rfl) h.2 | exact Views.oneCell (Views.own 3 rfl) h.2 | exact Views.oneCell (Views.own 4 rfl) h.2 | exact Views.oneCell (Views.own 5 rfl) h.2 | exact Views.oneCell (by assumption) h.2) 3 rfl rfl ?_))
      | (refine wl rfl (op_storeN h rfl rfl K.sz_int (by first | rfl | assumption | exact Views.oneCell (Views.own 0 rfl) h.2 | exact Views.oneCell (Views.own 1 rfl) h.2 | exact Views.oneCell (Views.own 2 rfl) h.2 | exact Views.oneCell (Views.own 3 rfl) h.2 | exact Views.oneCell (Views.own 4 rfl) h.2 | exact Views.oneCell (Views.own 5 rfl) h.2 | exact Views.oneCell (by assumption) h.2) 4 rfl rfl ?_))
      | (refine wl rfl (op_storeN h rfl rfl K.sz_int (by first | rfl | assumption | exact Views.oneCell (Views.own 0 rfl) h.2 | exact Views.oneCell (Views.own 1 rfl) h.2 | exact Views.oneCell (Views.own 2 rfl) h.2 | exact Views.oneCell (Views.own 3 rfl) h.2 | exact Views.oneCell (Views.own 4 rfl) h.2 | exact Views.oneCell (Views.own 5 rfl) h.2 | exact Views.oneCell (by assumption) h.2) 5 rfl rfl ?_))
      | (refine wl rfl (op_storeN h rfl rfl K.sz_int (by first | rfl | assumption | exact Views.oneCell (Views.own 0 rfl) h.2 | exact Views.oneCell (Views.own 1 rfl) h.2 | exact Views.oneCell (Views.own 2 rfl) h.2 | exact Views.oneCell (Views.own 3 rfl) h.2 | exact Views.oneCell (Views.own 4 rfl) h.2 | exact Views.oneCell (Views.own 5 rfl) h.2 | exact Views.oneCell (by assumption) h.2) 6 rfl rfl ?_))
   clear h a w; intro a w h
   (try simp only [List.set_cons_zero, List.set_cons_succ] at h)
   refine wnil (c_then ?_)
   refine c_seq ?_
   refine c_seq (c_region ?_)
   refine wv h (r_move h rfl) rfl ?_
   clear h a w; intro a w h
   refine wv h (r_move h rfl) rfl ?_
   clear h a w; intro a w h
   refine wv h (r_nilCheck h rfl) rfl ?_
   clear h a w; intro a w h
   refine wv h (r_fieldAddr h 2 rfl K.u_disk_Disk rfl K.sz_int rfl rfl) rfl ?_
   clear h a w; intro a w h
   first
      | (refine wv h (r_ldN h rfl K.u_int rfl 0 rfl rfl) rfl ?_)
      | (refine wv h (r_ldN h rfl K.u_int rfl 1 rfl rfl) rfl ?_)
      | (refine wv h (r_ldN h rfl K.u_int rfl 2 rfl rfl) rfl ?_)
      | (refine wv h (r_ldN h rfl K.u_int rfl 3 rfl rfl) rfl ?_)
      | (refine wv h (r_ldN h rfl K.u_int rfl 4 rfl rfl) rfl ?_)
      | (refine wv h (r_ldN h rfl K.u_int rfl 5 rfl rfl) rfl ?_)
      | (refine wv h (r_ldN h rfl K.u_int rfl 6 rfl rfl) rfl ?_)
      | (refine wv h (r_load h rfl K.u_int rfl 0 rfl rfl) rfl ?_)
      | (refine wv h (r_load h rfl K.u_int rfl 1 rfl rfl) rfl ?_)
      | (refine wv h (r_load h rfl K.u_int rfl 2 rfl rfl) rfl ?_)
      | (refine wv h (r_load h rfl K.u_int rfl 3 rfl rfl) rfl ?_)
      | (refine wv h (r_load h rfl K.u_int rfl 4 rfl rfl) rfl ?_)
      | (refine wv h (r_load h rfl K.u_int rfl 5 rfl rfl) rfl ?_)
      | (refine wv h (r_load1 h rfl K.u_int rfl (by assumption)) rfl ?_)
   clear h a w; intro a w h
   refine wv h (r_bin h rfl rfl (B.eql_int)) rfl ?_
   clear h a w; intro a w h
   refine wv h (r_nilCheck h rfl) rfl ?_
   clear h a w; intro a w h
   refine wv h (r_fieldAddr h 3 rfl K.u_disk_Disk rfl K.sz_bool rfl rfl) rfl ?_
   clear h a w; intro a w h
   first
      | (refine wl rfl (op_storeN h rfl rfl K.sz_bool (by first | rfl | assumption | exact Views.oneCell (Views.own 0 rfl) h.2 | exact Views.oneCell (Views.own 1 rfl) h.2 | exact Views.oneCell (Views.own 2 rfl) h.2 | exact Views.oneCell (Views.own 3 rfl) h.2 | exact Views.oneCell (Views.own 4 rfl) h.2 | exact Views.oneCell (Views.own 5 rfl) h.2 | exact Views.oneCell (by assumption) h.2) 0 rfl rfl ?_))
      | (refine wl rfl (op_storeN h rfl rfl K.sz_bool (by first | rfl | assumption | exact Views.oneCell (Views.own 0 rfl) h.2 | exact Views.oneCell (Views.own 1 rfl) h.2 | exact Views.oneCell (Views.own 2 rfl) h.2 | exact Views.oneCell (Views.own 3 rfl) h.2 | exact Views.oneCell (Views.own 4 rfl) h.2 | exact Views.oneCell (Views.own 5 rfl) h.2 | exact Views.oneCell (by assumption) h.2) 1 rfl rfl ?_))
      | (refine wl rfl (op_storeN h rfl rfl K.sz_bool (by first | rfl | assumption | exact Views.oneCell (Views.own 0 rfl) h.2 | exact Views.oneCell (Views.own 1 rfl) h.2 | exact Views.oneCell (Views.own 2 rfl) h.2 | exact Views.oneCell (Views.own 3 rfl) h.2 | exact Views.oneCell (Views.own 4 rfl) h.2 | exact Views.oneCell (Views.own 5 rfl) h.2 | exact Views.oneCell (by assumption) h.2) 2 rfl rfl ?_))
      | (refine wl rfl (op_storeN h rfl rfl K.sz_bool (by first | rfl | assumption | exact Views.oneCell (Views.own 0 rfl) h.2 | exact Views.oneCell (Views.own 1 rfl) h.2 | exact Views.oneCell (Views.own 2 rfl) h.2 | exact Views.oneCell (Views.own 3 rfl) h.2 | exact Views.oneCell (Views.own 4 rfl) h.2 | exact Views.oneCell (Views.own 5 rfl) h.2 | exact Views.oneCell (by assumption) h.2) 3 rfl rfl ?_))
      | (refine wl rfl (op_storeN h rfl rfl K.sz_bool (by first | rfl | assumption | exact Views.oneCell (Views.own 0 rfl) h.2 | exact Views.oneCell (Views.own 1 rfl) h.2 | exact Views.oneCell (Views.own 2 rfl) h.2 | exact Views.oneCell (Views.own 3 rfl) h.2 | exact Views.oneCell (Views.own 4 rfl) h.2 | exact Views.oneCell (Views.own 5 rfl) h.2 | exact Views.oneCell (by assumption) h.2) 4 rfl rfl ?_))
      | (refine wl rfl (op_storeN h rfl rfl K.sz_bool (by first | rfl | assumption | exact Views.oneCell (Views.own 0 rfl) h.2 | exact Views.oneCell (Views.own 1 rfl) h.2 | exact Views.oneCell (Views.own 2 rfl) h.2 | exact Views.oneCell (Views.own 3 rfl) h.2 | exact Views.oneCell (Views.own 4 rfl) h.2 | exact Views.oneCell (Views.own 5 rfl) h.2 | exact Views.oneCell (by assumption) h.2) 5 rfl rfl ?_))
      | (refine wl rfl (op_storeN h rfl rfl K.sz_bool (by first | rfl | assumption | exact Views.oneCell (Views.own 0 rfl) h.2 | exact Views.oneCell (Views.own 1 rfl) h.2 | exact Views.oneCell (Views.own 2 rfl) h.2 | exact Views.oneCell (Views.own 3 rfl) h.2 | exact Views.oneCell (Views.own 4 rfl) h.2 | exact Views.oneCell (Views.own 5 rfl) h.2 | exact Views.oneCell (by assumption) h.2) 6 rfl rfl ?_))
   clear h a w; intro a w h
   (try simp only [List.set_cons_zero, List.set_cons_succ] at h)
   refine wnil (c_then ?_)
   refine c_seq (c_region ?_)
   refine wv h (r_move h rfl) rfl ?_
   clear h a w; intro a w h
   refine wv h (r_nilCheck h rfl) rfl ?_
   clear h a w; intro a w h
   refine wv h (r_fieldAddr h 3 rfl K.u_disk_Disk rfl K.sz_bool rfl rfl) rfl ?_
   clear h a w; intro a w h
   first
      | (refine wv h (r_ldN h rfl K.u_bool rfl 0 rfl rfl) rfl ?_)
      | (refine wv h (r_ldN h rfl K.u_bool rfl 1 rfl rfl) rfl ?_)
      | (refine wv h (r_ldN h rfl K.u_bool rfl 2 rfl rfl) rfl ?_)
      | (refine wv h (r_ldN h rfl K.u_bool rfl 3 rfl rfl) rfl ?_)
      | (refine wv h (r_ldN h rfl K.u_bool rfl 4 rfl rfl) rfl ?_)
      | (refine wv h (r_ldN h rfl K.u_bool rfl 5 rfl rfl) rfl ?_)
      | (refine wv h (r_ldN h rfl K.u_bool rfl 6 rfl rfl) rfl ?_)
      | (refine wv h (r_load h rfl K.u_bool rfl 0 rfl rfl) rfl ?_)
      | (refine wv h (r_load h rfl K.u_bool rfl 1 rfl rfl) rfl ?_)
      | (refine wv h (r_load h rfl K.u_bool rfl 2 rfl rfl) rfl ?_)
      | (refine wv h (r_load h rfl K.u_bool rfl 3 rfl rfl) rfl ?_)
      | (refine wv h (r_load h rfl K.u_bool rfl 4 rfl rfl) rfl ?_)
      | (refine wv h (r_load h rfl K.u_bool rfl 5 rfl rfl) rfl ?_)
      | (refine wv h (r_load1 h rfl K.u_bool rfl (by assumption)) rfl ?_)
   clear h a w; intro a w h
   refine wnil (c_then ?_)
   first
    | refine c_condD h rfl (fun ht2 => ?_) (fun ht2 => ?_)
    | refine c_condP h rfl (by first | (simp only [Bool.and_eq_true, Bool.or_eq_true, Bool.not_eq_true', decide_eq_true_eq, decide_eq_false_iff_not, ne_eq, Bool.not_eq_eq_eq_not, Bool.not_true, beq_iff_eq, bne_iff_ne]; exact Iff.rfl) | exact Iff.rfl) (fun ht2 => ?_) (fun ht2 => ?_)
   ·
    as_aux_lemma =>
     refine c_seq (c_region ?_)
     refine wv h (r_assign h rfl) rfl ?_
     clear h a w; intro a w h
     refine wnil (c_then ?_)
     refine c_ret ?_
     have e : D.act = { D with acts := D.acts + 1, off := true } := by rw [Dk.act, if_neg ht1, if_pos ht2]
     rw [decide_eq_true ht2] at h
     exact ret1 h rfl rfl ⟨(), by simp [Dk.goes, ht2], by rw [e]; exact DiskI_shut (vs := vs) (vw := vw) h.2, trivial⟩
   ·
    refine c_skip ?_
    refine c_then ?_
    refine c_seq (c_region ?_)
    refine wv h (r_move h rfl) rfl ?_
    clear h a w; intro a w h
    refine wv h (r_move h rfl) rfl ?_
    clear h a w; intro a w h
    refine wv h (r_nilCheck h rfl) rfl ?_
    clear h a w; intro a w h
    refine wv h (r_fieldAddr h 2 rfl K.u_disk_Disk rfl K.sz_int rfl rfl) rfl ?_
    clear h a w; intro a w h
    first
        | (refine wv h (r_ldN h rfl K.u_int rfl 0 rfl rfl) rfl ?_)
        | (refine wv h (r_ldN h rfl K.u_int rfl 1 rfl rfl) rfl ?_)
        | (refine wv h (r_ldN h rfl K.u_int rfl 2 rfl rfl) rfl ?_)
        | (refine wv h (r_ldN h rfl K.u_int rfl 3 rfl rfl) rfl ?_)
        | (refine wv h (r_ldN h rfl K.u_int rfl 4 rfl rfl) rfl ?_)
        | (refine wv h (r_ldN h rfl K.u_int rfl 5 rfl rfl) rfl ?_)
        | (refine wv h (r_ldN h rfl K.u_int rfl 6 rfl rfl) rfl ?_)
        | (refine wv h (r_load h rfl K.u_int rfl 0 rfl rfl) rfl ?_)
        | (refine wv h (r_load h rfl K.u_int rfl 1 rfl rfl) rfl ?_)
        | (refine wv h (r_load h rfl K.u_int rfl 2 rfl rfl) rfl ?_)
        | (refine wv h (r_load h rfl K.u_int rfl 3 rfl rfl) rfl ?_)
        | (refine wv h (r_load h rfl K.u_int rfl 4 rfl rfl) rfl ?_)
        | (refine wv h (r_load h rfl K.u_int rfl 5 rfl rfl) rfl ?_)
        | (refine wv h (r_load1 h rfl K.u_int rfl (by assumption)) rfl ?_)
    clear h a w; intro a w h
    refine wv h (r_bin h rfl rfl (B.sub_i64 (by omega) (by omega))) rfl ?_
    clear h a w; intro a w h
    refine wv h (r_max2 h rfl rfl) rfl ?_
    clear h a w; intro a w h
    refine wv h (r_nilCheck h rfl) rfl ?_
    clear h a w; intro a w h
    refine wv h (r_fieldAddr h 2 rfl K.u_disk_Disk rfl K.sz_int rfl rfl) rfl ?_
    clear h a w; intro a w h
    first
        | (refine wl rfl (op_storeN h rfl rfl K.sz_int (by first | rfl | assumption | exact Views.oneCell (Views.own 0 rfl) h.2 | exact Views.oneCell (Views.own 1 rfl) h.2 | exact Views.oneCell (Views.own 2 rfl) h.2 | exact Views.oneCell (Views.own 3 rfl) h.2 | exact Views.oneCell (Views.own 4 rfl) h.2 | exact Views.oneCell (Views.own 5 rfl) h.2 | exact Views.oneCell (by assumption) h.2) 0 rfl rfl ?_))
        | (refine wl rfl (op_storeN h rfl rfl K.sz_int (by first | rfl | assumption | exact Views.oneCell (Views.own 0 rfl) h.2 | exact Views.oneCell (Views.own 1 rfl) h.2 | exact Views.oneCell (Views.own 2 rfl) h.2 | exact Views.oneCell (Views.own 3 rfl) h.2 | exact Views.oneCell (Views.own 4 rfl) h.2 | exact Views.oneCell (Views.own 5 rfl) h.2 | exact Views.oneCell (by assumption) h.2) 1 rfl rfl ?_))
        | (refine wl rfl (op_storeN h rfl rfl K.sz_int (by first | rfl | assumption | exact Views.oneCell (Views.own 0 rfl) h.2 | exact Views.oneCell (Views.own 1 rfl) h.2 | exact Views.oneCell (Views.own 2 rfl) h.2 | exact Views.oneCell (Views.own 3 rfl) h.2 | exact Views.oneCell (Views.own 4 rfl) h.2 | exact Views.oneCell (Views.own 5 rfl) h.2 | exact Views.oneCell (by assumption) h.2) 2 rfl rfl ?_))
        | (refine wl rfl (op_storeN h rfl rfl K.sz_int (by first | rfl | assumption | exact Views.oneCell (Views.own 0 rfl) h.2 | exact Views.oneCell (Views.own 1 rfl) h.2 | exact Views.oneCell (Views.own 2 rfl) h.2 | exact Views.oneCell (Views.own 3 rfl) h.2 | exact Views.oneCell (Views.own 4 rfl) h.2 | exact Views.oneCell (Views.own 5 rfl) h.2 | exact Views.oneCell (by assumption) h.2) 3 rfl rfl ?_))
        | (refine wl rfl (op_storeN h rfl rfl K.sz_int (by first | rfl | assumption | exact Views.oneCell (Views.own 0 rfl) h.2 | exact Views.oneCell (Views.own 1 rfl) h.2 | exact Views.oneCell (Views.own 2 rfl) h.2 | exact Views.oneCell (Views.own 3 rfl) h.2 | exact Views.oneCell (Views.own 4 rfl) h.2 | exact Views.oneCell (Views.own 5 rfl) h.2 | exact Views.oneCell (by assumption) h.2) 4 rfl rfl ?_))
        | (refine wl rfl (op_storeN h rfl rfl K.sz_int (by first | rfl | assumption | exact Views.oneCell (Views.own 0 rfl) h.2 | exact Views.oneCell (Views.own 1 rfl) h.2 | exact Views.oneCell (Views.own 2 rfl) h.2 | exact Views.oneCell (Views.own 3 rfl) h.2 | exact Views.oneCell (Views.own 4 rfl) h.2 | exact Views.oneCell (Views.own 5 rfl) h.2 | exact Views.oneCell (by assumption) h.2) 5 rfl rfl ?_))
        | (refine wl rfl (op_storeN h rfl rfl K.sz_int (by first | rfl | assumption | exact Views.oneCell (Views.own 0 rfl) h.2 | exact Views.oneCell (Views.own 1 rfl) h.2 | exact Views.oneCell (Views.own 2 rfl) h.2 | exact Views.oneCell (Views.own 3 rfl) h.2 | exact Views.oneCell (Views.own 4 rfl) h.2 | exact Views.oneCell (Views.own 5 rfl) h.2 | exact Views.oneCell (by assumption) h.2) 6 rfl rfl ?_))
    clear h a w; intro a w h
    (try simp only [List.set_cons_zero, List.set_cons_succ] at h)
    refine wnil (c_then ?_)
    refine c_seq (c_region ?_)
    refine wv h (r_assign h rfl) rfl ?_
    clear h a w; intro a w h
    refine wnil (c_then ?_)
    refine c_ret ?_
    have e : D.act = { D with acts := D.acts + 1, left := max (D.left - 1) (-1) } := by rw [Dk.act, if_neg ht1, if_neg ht2]
    rw [decide_eq_false ht2] at h
    have e1 : D.off = false := by simpa using ht1
    have e2 : D.act = { D with acts := D.acts + 1, left := max (D.left - 1) (-1), off := false } := by rw [e, ← e1]
    exact ret1 h rfl rfl ⟨(), by simp [Dk.goes, ht2, e1], by rw [e2]; exact DiskI_shut (vs := vs) (vw := vw) h.2, trivial⟩
end Go.Proofs.K
