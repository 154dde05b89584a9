/- The contracts of package journal: what a journal tells, sectors that are written. -/
import Derived.Test.YtnplbpmdehcknaaDiskb
import Derived.Test.YtnplbpmdehcknaaJnPureb
set_option linter.unusedVariables false
set_option linter.unusedSimpArgs false
set_option maxRecDepth 10000
set_option maxHeartbeats 2000000
namespace Go.Sl
/-- a page, its bytes a slice -/
structure PgV where
  at_ : Int
  sa : Option Addr
  sl : Nat
  sc : Nat
  p : List UInt8
def PgV.v (x : PgV) : Value := .slice x.sa x.sl x.sc
def PgV.pg (x : PgV) : Pg := ⟨x.at_, x.p⟩
def cellsPg (x : PgV) : List Value := [.int .i64 x.at_, .slice x.sa x.sl x.sc]
instance : Row cellsPg 2 := ⟨fun _ => rfl, fun x u hu => by
  simp only [cellsPg, List.mem_cons, List.not_mem_nil, or_false] at hu
  rcases hu with rfl | rfl <;> rfl⟩
def pgs (l : List PgV) : List Pg := l.map PgV.pg
@[simp] theorem pgs_len (l : List PgV) : (pgs l).length = l.length := by simp [pgs]
def OkV (R : List HItem) (l : List PgV) : Prop := ∀ x ∈ l, ViewsB R (.slice x.sa x.sl x.sc) x.p ∧ -4611686018427387904 ≤ x.at_ ∧ x.at_ ≤ 4611686018427387904
theorem pgs_drop (l : List PgV) {i : Nat} {x : PgV} (h : l[i]? = some x) : (pgs l).drop i = x.pg :: (pgs l).drop (i + 1) := by
  have hlt : i < l.length := (List.getElem?_eq_some_iff.1 h).1
  rw [List.drop_eq_getElem_cons (by simpa using hlt)]
  congr 1
  rw [List.getElem?_eq_getElem hlt] at h
  have : l[i] = x := by simpa using h
  simp [pgs, this]
end Go.Sl
namespace Go.Proofs.K
open Go.Sl
attribute [local irreducible] Go.Sl.Own Go.Sl.Blk Go.Sl.Sep Go.Sl.Ex Go.Sl.Fact
attribute [local irreducible] DiskI
def JnL (bj b : Nat) (D : Dk) (n : Nat) : List HItem := [Blk bj (.cells ⟨[dp b, .int .i64 (n : Int)]⟩ t_journal_Journal), DiskI b D]
def JnI (bj b : Nat) (D : Dk) (n : Nat) : HItem := Sep (JnL bj b D n)
theorem JnI_open {s w : World} {bj b n : Nat} {D : Dk} {F : List HItem} (h : Sat s w (JnI bj b D n :: F)) : Sat s w (Blk bj (.cells ⟨[dp b, .int .i64 (n : Int)]⟩ t_journal_Journal) :: DiskI b D :: F) := h.unsep
theorem JnI_shut {s w : World} {bj b n : Nat} {D : Dk} {F : List HItem} (h : Sat s w (Blk bj (.cells ⟨[dp b, .int .i64 (n : Int)]⟩ t_journal_Journal) :: DiskI b D :: F)) : Sat s w (JnI bj b D n :: F) := Sat.sep (M := JnL bj b D n) h

theorem jn_Sectors (s w : World) (bj b n : Nat) (D : Dk) (L : List HItem) (i : Nat) (hi : L[i]? = some (JnI bj b D n)) (hok : D.ok) (hs : Sat s w L) :
    Calls P n_journal_Journal_Sectors #[dp bj] w (Ret s (fun _ : Unit => .int .i64 ((D.safe.length : Int) - 49)) (fun _ => L) (fun _ => True)) := by
  refine atS i hi hs fun F hF hs2 => ?_
  clear hs hi
  replace hs := JnI_open hs2
  clear hs2
  have hsl := hok.2.1
  refine enter K.fn_journal_Journal_Sectors rfl K.nt_journal_Journal_Sectors rfl hs ?_
  clear hs w; intro a w h
  refine c_seq (c_region ?_)
  refine wv h (r_assign h rfl) rfl ?_
  clear h a w; intro a w h
  refine wnil (c_then ?_)
  refine c_seq ?_
  refine c_seq (c_region ?_)
  refine wv h (r_move h rfl) rfl ?_
  clear h a w; intro a w h
  refine wv h (r_ptreq_nil h K.u_p_journal_Journal rfl rfl) rfl ?_
  clear h a w; intro a w h
  refine wnil (c_then ?_)
  refine c_false h rfl ?_
  refine c_skip ?_
  refine c_then ?_
  refine c_seq (c_region ?_)
  refine wv h (r_move h rfl) rfl ?_
  clear h a w; intro a w h
  refine wv h (r_nilCheck h rfl) rfl ?_
  clear h a w; intro a w h
  refine wv h (r_fieldAddr0 h rfl K.u_journal_Journal rfl K.sz_p_disk_Disk rfl rfl) rfl ?_
  clear h a w; intro a w h
  first
    | (refine wv h (r_ldN h rfl K.u_p_disk_Disk rfl 0 rfl rfl) rfl ?_)
    | (refine wv h (r_ldN h rfl K.u_p_disk_Disk rfl 1 rfl rfl) rfl ?_)
    | (refine wv h (r_ldN h rfl K.u_p_disk_Disk rfl 2 rfl rfl) rfl ?_)
    | (refine wv h (r_ldN h rfl K.u_p_disk_Disk rfl 3 rfl rfl) rfl ?_)
    | (refine wv h (r_ldN h rfl K.u_p_disk_Disk rfl 4 rfl rfl) rfl ?_)
    | (refine wv h (r_ldN h rfl K.u_p_disk_Disk rfl 5 rfl rfl) rfl ?_)
    | (refine wv h (r_ldN h rfl K.u_p_disk_Disk rfl 6 rfl rfl) rfl ?_)
    | (refine wv h (r_ldC (o := 0) h rfl K.u_p_disk_Disk rfl 0 rfl) rfl ?_)
    | (refine wv h (r_ldC (o := 0) h rfl K.u_p_disk_Disk rfl 1 rfl) rfl ?_)
    | (refine wv h (r_ldC (o := 0) h rfl K.u_p_disk_Disk rfl 2 rfl) rfl ?_)
    | (refine wv h (r_ldC (o := 0) h rfl K.u_p_disk_Disk rfl 3 rfl) rfl ?_)
    | (refine wv h (r_ldC (o := 0) h rfl K.u_p_disk_Disk rfl 4 rfl) rfl ?_)
    | (refine wv h (r_ldC (o := 0) h rfl K.u_p_disk_Disk rfl 5 rfl) rfl ?_)
    | (refine wv h (r_ldC (o := 0) h rfl K.u_p_disk_Disk rfl 6 rfl) rfl ?_)
    | (refine wv h (r_load h rfl K.u_p_disk_Disk rfl 0 rfl rfl) rfl ?_)
    | (refine wv h (r_load h rfl K.u_p_disk_Disk rfl 1 rfl rfl) rfl ?_)
    | (refine wv h (r_load h rfl K.u_p_disk_Disk rfl 2 rfl rfl) rfl ?_)
    | (refine wv h (r_load h rfl K.u_p_disk_Disk rfl 3 rfl rfl) rfl ?_)
    | (refine wv h (r_load h rfl K.u_p_disk_Disk rfl 4 rfl rfl) rfl ?_)
    | (refine wv h (r_load h rfl K.u_p_disk_Disk rfl 5 rfl rfl) rfl ?_)
    | (refine wv h (r_load1 h rfl K.u_p_disk_Disk rfl (by assumption)) rfl ?_)
  clear h a w; intro a w h
  first
    | (refine wl rfl (op_call h rfl K.go_disk_Disk_Sectors (disk_Sectors s _ _ _ _ 0 rfl h.2) rfl ?_))
    | (refine wl rfl (op_call h rfl K.go_disk_Disk_Sectors (disk_Sectors s _ _ _ _ 1 rfl h.2) rfl ?_))
    | (refine wl rfl (op_call h rfl K.go_disk_Disk_Sectors (disk_Sectors s _ _ _ _ 2 rfl h.2) rfl ?_))
    | (refine wl rfl (op_call h rfl K.go_disk_Disk_Sectors (disk_Sectors s _ _ _ _ 3 rfl h.2) rfl ?_))
    | (refine wl rfl (op_call h rfl K.go_disk_Disk_Sectors (disk_Sectors s _ _ _ _ 4 rfl h.2) rfl ?_))
    | (refine wl rfl (op_call h rfl K.go_disk_Disk_Sectors (disk_Sectors s _ _ _ _ 5 rfl h.2) rfl ?_))
  clear h a w; intro x a w hx h
  (try simp only [List.set_cons_zero, List.set_cons_succ] at h)
  refine wv h (r_bin h rfl rfl (B.sub_i64 (by omega) (by omega))) rfl ?_
  clear h a w; intro a w h
  refine wv h (r_assign h rfl) rfl ?_
  clear h a w; intro a w h
  refine wnil (c_then ?_)
  refine c_ret ?_
  exact ret1 h rfl rfl ⟨(), rfl, JnI_shut h.2, trivial⟩
theorem jn_Sectors_nil (s w : World) (F : List HItem) (hs : Sat s w F) :
    Calls P n_journal_Journal_Sectors #[dnil] w (Ret s (fun _ : Unit => .int .i64 0) (fun _ => F) (fun _ => True)) := by
  refine enter K.fn_journal_Journal_Sectors rfl K.nt_journal_Journal_Sectors rfl hs ?_
  clear hs w; intro a w h
  refine c_seq (c_region ?_)
  refine wv h (r_assign h rfl) rfl ?_
  clear h a w; intro a w h
  refine wnil (c_then ?_)
  refine c_seq ?_
  refine c_seq (c_region ?_)
  refine wv h (r_move h rfl) rfl ?_
  clear h a w; intro a w h
  refine wv h (r_ptreq_nil h K.u_p_journal_Journal rfl rfl) rfl ?_
  clear h a w; intro a w h
  refine wnil (c_then ?_)
  refine c_true h rfl ?_
  refine c_seq (c_region ?_)
  refine wv h (r_assign h rfl) rfl ?_
  clear h a w; intro a w h
  refine wnil (c_then ?_)
  refine c_ret ?_
  exact ret1 h rfl rfl ⟨(), rfl, h.2, trivial⟩
theorem jn_On (s w : World) (bj b n : Nat) (D : Dk) (L : List HItem) (i : Nat) (hi : L[i]? = some (JnI bj b D n)) (hs : Sat s w L) :
    Calls P n_journal_Journal_On #[dp bj] w (Ret s (fun _ : Unit => .bool (!D.off)) (fun _ => L) (fun _ => True)) := by
  refine atS i hi hs fun F hF hs2 => ?_
  clear hs hi
  replace hs := JnI_open hs2
  clear hs2
  refine enter K.fn_journal_Journal_On rfl K.nt_journal_Journal_On rfl hs ?_
  clear hs w; intro a w h
  refine c_seq (c_region ?_)
  refine wv h (r_assign h rfl) rfl ?_
  clear h a w; intro a w h
  refine wnil (c_then ?_)
  refine c_seq (c_region ?_)
  refine wv h (r_move h rfl) rfl ?_
  clear h a w; intro a w h
  refine wv h (r_ptrne_nil h K.u_p_journal_Journal rfl rfl) rfl ?_
  clear h a w; intro a w h
  refine wv h (r_move h rfl) rfl ?_
  clear h a w; intro a w h
  refine wvG h (by first | exact .t rfl | exact .f rfl | exact .gt rfl | exact .gf rfl) (fun hg => by (try simp only [↓gval_on hg, ↓gval_and hg] at h); (have hg2 := hg; (try simp only [Bool.and_eq_true, Bool.or_eq_true, Bool.not_eq_true', decide_eq_true_eq, decide_eq_false_iff_not] at hg2)); first | exact r_move h rfl) rfl ?_
  clear h a w; intro a w h
  refine wvG h (by first | exact .t rfl | exact .f rfl | exact .gt rfl | exact .gf rfl) (fun hg => by (try simp only [↓gval_on hg, ↓gval_and hg] at h); (have hg2 := hg; (try simp only [Bool.and_eq_true, Bool.or_eq_true, Bool.not_eq_true', decide_eq_true_eq, decide_eq_false_iff_not] at hg2)); first | exact r_nilCheck h rfl) rfl ?_
  clear h a w; intro a w h
  refine wvG h (by first | exact .t rfl | exact .f rfl | exact .gt rfl | exact .gf rfl) (fun hg => by (try simp only [↓gval_on hg, ↓gval_and hg] at h); (have hg2 := hg; (try simp only [Bool.and_eq_true, Bool.or_eq_true, Bool.not_eq_true', decide_eq_true_eq, decide_eq_false_iff_not] at hg2)); first | exact r_fieldAddr0 h rfl K.u_journal_Journal rfl K.sz_p_disk_Disk rfl rfl) rfl ?_
  clear h a w; intro a w h
  refine wvG h (by first | exact .t rfl | exact .f rfl | exact .gt rfl | exact .gf rfl) (fun hg => by (try simp only [↓gval_on hg, ↓gval_and hg] at h); (have hg2 := hg; (try simp only [Bool.and_eq_true, Bool.or_eq_true, Bool.not_eq_true', decide_eq_true_eq, decide_eq_false_iff_not] at hg2)); first | exact r_ldN h rfl K.u_p_disk_Disk rfl 0 rfl rfl | exact r_ldN h rfl K.u_p_disk_Disk rfl 1 rfl rfl | exact r_ldN h rfl K.u_p_disk_Disk rfl 2 rfl rfl | exact r_ldN h rfl K.u_p_disk_Disk rfl 3 rfl rfl | exact r_ldN h rfl K.u_p_disk_Disk rfl 4 rfl rfl | exact r_ldN h rfl K.u_p_disk_Disk rfl 5 rfl rfl | exact r_ldN h rfl K.u_p_disk_Disk rfl 6 rfl rfl | exact r_ldC (o := 0) h rfl K.u_p_disk_Disk rfl 0 rfl | exact r_ldC (o := 0) h rfl K.u_p_disk_Disk rfl 1 rfl | exact r_ldC (o := 0) h rfl K.u_p_disk_Disk rfl 2 rfl | exact r_ldC (o := 0) h rfl K.u_p_disk_Disk rfl 3 rfl | exact r_ldC (o := 0) h rfl K.u_p_disk_Disk rfl 4 rfl | exact r_ldC (o := 0) h rfl K.u_p_disk_Disk rfl 5 rfl | exact r_ldC (o := 0) h rfl K.u_p_disk_Disk rfl 6 rfl | exact r_load h rfl K.u_p_disk_Disk rfl 0 rfl rfl | exact r_load h rfl K.u_p_disk_Disk rfl 1 rfl rfl | exact r_load h rfl K.u_p_disk_Disk rfl 2 rfl rfl | exact r_load h rfl K.u_p_disk_Disk rfl 3 rfl rfl | exact r_load h rfl K.u_p_disk_Disk rfl 4 rfl rfl | exact r_load h rfl K.u_p_disk_Disk rfl 5 rfl rfl | exact r_load1 h rfl K.u_p_disk_Disk rfl (by assumption)) rfl ?_
  clear h a w; intro a w h
  refine wcG h (by first | exact .t rfl | exact .f rfl | exact .gt rfl | exact .gf rfl) K.go_disk_Disk_On (fun hg => by (try simp only [↓gval_on hg, ↓gval_and hg]); (have hg2 := hg; (try simp only [Bool.and_eq_true, Bool.or_eq_true, Bool.not_eq_true', decide_eq_true_eq, decide_eq_false_iff_not] at hg2)); exact ⟨_, rfl, (by first | exact disk_On s _ _ _ _ 0 rfl h.2 | exact disk_On s _ _ _ _ 1 rfl h.2 | exact disk_On s _ _ _ _ 2 rfl h.2 | exact disk_On s _ _ _ _ 3 rfl h.2 | exact disk_On s _ _ _ _ 4 rfl h.2 | exact disk_On s _ _ _ _ 5 rfl h.2)⟩) rfl ?_
  clear h a w; intro a w h
  first
    | (refine wv h (r_pickA h rfl rfl rfl) rfl ?_)
    | (refine wv h (r_pickO h rfl rfl rfl) rfl ?_)
    | (refine wv h (r_pick_true h rfl rfl) rfl ?_)
    | (refine wv h (r_pick_false h rfl rfl) rfl ?_)
    | (refine wv h (r_pick h rfl rfl rfl) rfl ?_)
  clear h a w; intro a w h
  refine wv h (r_assign h rfl) rfl ?_
  clear h a w; intro a w h
  refine wnil (c_then ?_)
  refine c_ret ?_
  exact ret1 h rfl rfl ⟨(), by simp, JnI_shut h.2, trivial⟩
theorem jn_On_nil (s w : World) (F : List HItem) (hs : Sat s w F) :
    Calls P n_journal_Journal_On #[dnil] w (Ret s (fun _ : Unit => .bool false) (fun _ => F) (fun _ => True)) := by
  refine enter K.fn_journal_Journal_On rfl K.nt_journal_Journal_On rfl hs ?_
  clear hs w; intro a w h
  refine c_seq (c_region ?_)
  refine wv h (r_assign h rfl) rfl ?_
  clear h a w; intro a w h
  refine wnil (c_then ?_)
  refine c_seq (c_region ?_)
  refine wv h (r_move h rfl) rfl ?_
  clear h a w; intro a w h
  refine wv h (r_ptrne_nil h K.u_p_journal_Journal rfl rfl) rfl ?_
  clear h a w; intro a w h
  refine wv h (r_move h rfl) rfl ?_
  clear h a w; intro a w h
  refine wvs h rfl rfl ?_
  clear h a w; intro a w h
  refine wvs h rfl rfl ?_
  clear h a w; intro a w h
  refine wvs h rfl rfl ?_
  clear h a w; intro a w h
  refine wvs h rfl rfl ?_
  clear h a w; intro a w h
  refine wvs h rfl rfl ?_
  clear h a w; intro a w h
  first
    | (refine wv h (r_pickA h rfl rfl rfl) rfl ?_)
    | (refine wv h (r_pickO h rfl rfl rfl) rfl ?_)
    | (refine wv h (r_pick_true h rfl rfl) rfl ?_)
    | (refine wv h (r_pick_false h rfl rfl) rfl ?_)
    | (refine wv h (r_pick h rfl rfl rfl) rfl ?_)
  clear h a w; intro a w h
  refine wv h (r_assign h rfl) rfl ?_
  clear h a w; intro a w h
  refine wnil (c_then ?_)
  refine c_ret ?_
  exact ret1 h rfl rfl ⟨(), rfl, h.2, trivial⟩

def jBad (D : Dk) (c : Int) : Prop := c < 0 ∨ (D.safe.length : Int) - 49 ≤ c
instance (D : Dk) (c : Int) : Decidable (jBad D c) := by unfold jBad; infer_instance
def jErr (D : Dk) (c : Int) : Int := if jBad D c then 1 else if D.off then 9 else 0
def jVal (D : Dk) (c : Int) : List UInt8 := if jBad D c ∨ D.off = true then [] else (D.read (49 + c.toNat)).val
theorem jn_Read (s w : World) (bj b n : Nat) (D : Dk) (c : Int) (L : List HItem) (i : Nat) (hi : L[i]? = some (JnI bj b D n)) (hok : D.ok) (hs : Sat s w L) :
    Calls P n_journal_Journal_Read #[dp bj, .int .i64 c] w (Ret s (fun v : Value => .tuple #[v, .int .i64 (jErr D c)]) (fun v => OwnB v (jVal D c) :: L) (fun _ => True)) := by
  refine atA i hi hs fun F hF hs2 => ?_
  clear hs hi
  replace hs := hs2
  clear hs2
  have hsl := hok.2.1
  refine enter K.fn_journal_Journal_Read rfl K.nt_journal_Journal_Read rfl hs ?_
  clear hs w; intro a w h
  refine c_seq (c_region ?_)
  refine wv h (r_assign h rfl) rfl ?_
  clear h a w; intro a w h
  refine wv h (r_assign h rfl) rfl ?_
  clear h a w; intro a w h
  refine wnil (c_then ?_)
  refine c_seq ?_
  refine c_seq (c_region ?_)
  refine wv h (r_move h rfl) rfl ?_
  clear h a w; intro a w h
  refine wv h (r_bin h rfl rfl (B.lss_int)) rfl ?_
  clear h a w; intro a w h
  refine wv h (r_move h rfl) rfl ?_
  clear h a w; intro a w h
  refine wvG h (by first | exact .t rfl | exact .f rfl | exact .gt rfl | exact .gf rfl) (fun hg => by (try simp only [↓gval_on hg, ↓gval_and hg] at h); (have hg2 := hg; (try simp only [Bool.and_eq_true, Bool.or_eq_true, Bool.not_eq_true', decide_eq_true_eq, decide_eq_false_iff_not] at hg2)); first | exact r_move h rfl) rfl ?_
  clear h a w; intro a w h
  refine wvG h (by first | exact .t rfl | exact .f rfl | exact .gt rfl | exact .gf rfl) (fun hg => by (try simp only [↓gval_on hg, ↓gval_and hg] at h); (have hg2 := hg; (try simp only [Bool.and_eq_true, Bool.or_eq_true, Bool.not_eq_true', decide_eq_true_eq, decide_eq_false_iff_not] at hg2)); first | exact r_move h rfl) rfl ?_
  clear h a w; intro a w h
  refine wcG h (by first | exact .t rfl | exact .f rfl | exact .gt rfl | exact .gf rfl) K.go_journal_Journal_Sectors (fun hg => by (try simp only [↓gval_on hg, ↓gval_and hg]); (have hg2 := hg; (try simp only [Bool.and_eq_true, Bool.or_eq_true, Bool.not_eq_true', decide_eq_true_eq, decide_eq_false_iff_not] at hg2)); exact ⟨_, rfl, jn_Sectors s _ bj b n D _ 0 rfl hok h.2⟩) rfl ?_
  clear h a w; intro a w h
  refine wvG h (by first | exact .t rfl | exact .f rfl | exact .gt rfl | exact .gf rfl) (fun hg => by (try simp only [↓gval_on hg, ↓gval_and hg] at h); (have hg2 := hg; (try simp only [Bool.and_eq_true, Bool.or_eq_true, Bool.not_eq_true', decide_eq_true_eq, decide_eq_false_iff_not] at hg2)); first | exact r_bin h rfl rfl (B.geq_int)) rfl ?_
  clear h a w; intro a w h
  first
    | (refine wv h (r_pickA h rfl rfl rfl) rfl ?_)
    | (refine wv h (r_pickO h rfl rfl rfl) rfl ?_)
    | (refine wv h (r_pick_true h rfl rfl) rfl ?_)
    | (refine wv h (r_pick_false h rfl rfl) rfl ?_)
    | (refine wv h (r_pick h rfl rfl rfl) rfl ?_)
  clear h a w; intro a w h
  refine wnil (c_then ?_)
  first
   | refine c_condD h rfl (fun ht1 => ?_) (fun ht1 => ?_)
   | refine c_condP h rfl (by first | (simp only [Bool.and_eq_true, Bool.or_eq_true, Bool.not_eq_true', decide_eq_true_eq, decide_eq_false_iff_not, ne_eq, Bool.not_eq_eq_eq_not, Bool.not_true, beq_iff_eq, bne_iff_ne]; exact Iff.rfl) | exact Iff.rfl) (fun ht1 => ?_) (fun ht1 => ?_)
  ·
   as_aux_lemma =>
    refine c_seq (c_region ?_)
    refine wv h (r_assign h rfl) rfl ?_
    clear h a w; intro a w h
    refine wv h (r_assign h rfl) rfl ?_
    clear h a w; intro a w h
    refine wnil (c_then ?_)
    refine c_ret ?_
    have e : jBad D c := by unfold jBad; omega
    exact ret2 h rfl rfl rfl ⟨_, by rw [jErr, if_pos e], by rw [jVal, if_pos (.inl e)]; exact h.addNilb.2, trivial⟩
  ·
   have e : ¬ jBad D c := by unfold jBad; omega
   have hc : ¬ ((49 + c) < 0 ∨ (D.safe.length : Int) ≤ 49 + c) := by omega
   replace h := h.mem JnI_open
   refine c_skip ?_
   refine c_then ?_
   refine c_seq (c_region ?_)
   refine wv h (r_move h rfl) rfl ?_
   clear h a w; intro a w h
   refine wv h (r_nilCheck h rfl) rfl ?_
   clear h a w; intro a w h
   refine wv h (r_fieldAddr0 h rfl K.u_journal_Journal rfl K.sz_p_disk_Disk rfl rfl) rfl ?_
   clear h a w; intro a w h
   first
      | (refine wv h (r_ldN h rfl K.u_p_disk_Disk rfl 0 rfl rfl) rfl ?_)
      | (refine wv h (r_ldN h rfl K.u_p_disk_Disk rfl 1 rfl rfl) rfl ?_)
      | (refine wv h (r_ldN h rfl K.u_p_disk_Disk rfl 2 rfl rfl) rfl ?_)
      | (refine wv h (r_ldN h rfl K.u_p_disk_Disk rfl 3 rfl rfl) rfl ?_)
      | (refine wv h (r_ldN h rfl K.u_p_disk_Disk rfl 4 rfl rfl) rfl ?_)
      | (refine wv h (r_ldN h rfl K.u_p_disk_Disk rfl 5 rfl rfl) rfl ?_)
      | (refine wv h (r_ldN h rfl K.u_p_disk_Disk rfl 6 rfl rfl) rfl ?_)
      | (refine wv h (r_ldC (o := 0) h rfl K.u_p_disk_Disk rfl 0 rfl) rfl ?_)
      | (refine wv h (r_ldC (o := 0) h rfl K.u_p_disk_Disk rfl 1 rfl) rfl ?_)
      | (refine wv h (r_ldC (o := 0) h rfl K.u_p_disk_Disk rfl 2 rfl) rfl ?_)
      | (refine wv h (r_ldC (o := 0) h rfl K.u_p_disk_Disk rfl 3 rfl) rfl ?_)
      | (refine wv h (r_ldC (o := 0) h rfl K.u_p_disk_Disk rfl 4 rfl) rfl ?_)
      | (refine wv h (r_ldC (o := 0) h rfl K.u_p_disk_Disk rfl 5 rfl) rfl ?_)
      | (refine wv h (r_ldC (o := 0) h rfl K.u_p_disk_Disk rfl 6 rfl) rfl ?_)
      | (refine wv h (r_load h rfl K.u_p_disk_Disk rfl 0 rfl rfl) rfl ?_)
      | (refine wv h (r_load h rfl K.u_p_disk_Disk rfl 1 rfl rfl) rfl ?_)
      | (refine wv h (r_load h rfl K.u_p_disk_Disk rfl 2 rfl rfl) rfl ?_)
      | (refine wv h (r_load h rfl K.u_p_disk_Disk rfl 3 rfl rfl) rfl ?_)
      | (refine wv h (r_load h rfl K.u_p_disk_Disk rfl 4 rfl rfl) rfl ?_)
      | (refine wv h (r_load h rfl K.u_p_disk_Disk rfl 5 rfl rfl) rfl ?_)
      | (refine wv h (r_load1 h rfl K.u_p_disk_Disk rfl (by assumption)) rfl ?_)
   clear h a w; intro a w h
   refine wv h (r_move h rfl) rfl ?_
   clear h a w; intro a w h
   refine wv h (r_bin h rfl rfl (B.add_i64 (by omega) (by omega))) rfl ?_
   clear h a w; intro a w h
   first
      | (refine wl rfl (op_call h rfl K.go_disk_Disk_Read (disk_Read s _ _ _ _ _ 0 rfl (by first | assumption | exact Dk.OkN.ok' (by decide)) h.2) rfl ?_))
      | (refine wl rfl (op_call h rfl K.go_disk_Disk_Read (disk_Read s _ _ _ _ _ 1 rfl (by first | assumption | exact Dk.OkN.ok' (by decide)) h.2) rfl ?_))
      | (refine wl rfl (op_call h rfl K.go_disk_Disk_Read (disk_Read s _ _ _ _ _ 2 rfl (by first | assumption | exact Dk.OkN.ok' (by decide)) h.2) rfl ?_))
      | (refine wl rfl (op_call h rfl K.go_disk_Disk_Read (disk_Read s _ _ _ _ _ 3 rfl (by first | assumption | exact Dk.OkN.ok' (by decide)) h.2) rfl ?_))
      | (refine wl rfl (op_call h rfl K.go_disk_Disk_Read (disk_Read s _ _ _ _ _ 4 rfl (by first | assumption | exact Dk.OkN.ok' (by decide)) h.2) rfl ?_))
      | (refine wl rfl (op_call h rfl K.go_disk_Disk_Read (disk_Read s _ _ _ _ _ 5 rfl (by first | assumption | exact Dk.OkN.ok' (by decide)) h.2) rfl ?_))
   clear h a w; intro x a w hx h
   (try simp only [List.set_cons_zero, List.set_cons_succ] at h)
   refine wv h (r_extractN h rfl rfl) rfl ?_
   clear h a w; intro a w h
   refine wv h (r_extractN h rfl rfl) rfl ?_
   clear h a w; intro a w h
   refine wv h (r_assign h rfl) rfl ?_
   clear h a w; intro a w h
   refine wv h (r_assign h rfl) rfl ?_
   clear h a w; intro a w h
   refine wnil (c_then ?_)
   refine c_ret ?_
   refine ret2 h rfl rfl rfl ⟨_, by rw [jErr, if_neg e, Dk.eRead, if_neg hc], ?_, trivial⟩
   have h2 : Sat s w (JnI bj b D n :: OwnB _ (D.vRead (49 + c)) :: F) := JnI_shut ((h.2.back 2 (by show 2 ≤ F.length + 2; omega)))
   rw [show jVal D c = D.vRead (49 + c) by
     rw [jVal, Dk.vRead, show (49 + c).toNat = 49 + c.toNat by omega]
     by_cases q : D.off = true
     · rw [if_pos (.inr q), if_pos (.inr q)]
     · rw [if_neg (by rintro (x | x); exact e x; exact q x), if_neg (by rintro (x | x); exact hc x; exact q x)]]
   exact h2.perm (.swap _ _ _)
theorem jn_Read_nil (s w : World) (c : Int) (F : List HItem) (hs : Sat s w F) :
    Calls P n_journal_Journal_Read #[dnil, .int .i64 c] w (Ret s (fun _ : Unit => .tuple #[.slice none 0 0, .int .i64 1]) (fun _ => F) (fun _ => True)) := by
  refine enter K.fn_journal_Journal_Read rfl K.nt_journal_Journal_Read rfl hs ?_
  clear hs w; intro a w h
  refine c_seq (c_region ?_)
  refine wv h (r_assign h rfl) rfl ?_
  clear h a w; intro a w h
  refine wv h (r_assign h rfl) rfl ?_
  clear h a w; intro a w h
  refine wnil (c_then ?_)
  refine c_seq ?_
  refine c_seq (c_region ?_)
  refine wv h (r_move h rfl) rfl ?_
  clear h a w; intro a w h
  refine wv h (r_bin h rfl rfl (B.lss_int)) rfl ?_
  clear h a w; intro a w h
  refine wv h (r_move h rfl) rfl ?_
  clear h a w; intro a w h
  refine wvG h (by first | exact .t rfl | exact .f rfl | exact .gt rfl | exact .gf rfl) (fun hg => by (try simp only [↓gval_on hg, ↓gval_and hg] at h); (have hg2 := hg; (try simp only [Bool.and_eq_true, Bool.or_eq_true, Bool.not_eq_true', decide_eq_true_eq, decide_eq_false_iff_not] at hg2)); first | exact r_move h rfl) rfl ?_
  clear h a w; intro a w h
  refine wvG h (by first | exact .t rfl | exact .f rfl | exact .gt rfl | exact .gf rfl) (fun hg => by (try simp only [↓gval_on hg, ↓gval_and hg] at h); (have hg2 := hg; (try simp only [Bool.and_eq_true, Bool.or_eq_true, Bool.not_eq_true', decide_eq_true_eq, decide_eq_false_iff_not] at hg2)); first | exact r_move h rfl) rfl ?_
  clear h a w; intro a w h
  refine wcG h (by first | exact .t rfl | exact .f rfl | exact .gt rfl | exact .gf rfl) K.go_journal_Journal_Sectors (fun hg => by (try simp only [↓gval_on hg, ↓gval_and hg]); (have hg2 := hg; (try simp only [Bool.and_eq_true, Bool.or_eq_true, Bool.not_eq_true', decide_eq_true_eq, decide_eq_false_iff_not] at hg2)); exact ⟨_, rfl, jn_Sectors_nil s _ _ h.2⟩) rfl ?_
  clear h a w; intro a w h
  refine wvG h (by first | exact .t rfl | exact .f rfl | exact .gt rfl | exact .gf rfl) (fun hg => by (try simp only [↓gval_on hg, ↓gval_and hg] at h); (have hg2 := hg; (try simp only [Bool.and_eq_true, Bool.or_eq_true, Bool.not_eq_true', decide_eq_true_eq, decide_eq_false_iff_not] at hg2)); first | exact r_bin h rfl rfl (B.geq_int)) rfl ?_
  clear h a w; intro a w h
  first
    | (refine wv h (r_pickA h rfl rfl rfl) rfl ?_)
    | (refine wv h (r_pickO h rfl rfl rfl) rfl ?_)
    | (refine wv h (r_pick_true h rfl rfl) rfl ?_)
    | (refine wv h (r_pick_false h rfl rfl) rfl ?_)
    | (refine wv h (r_pick h rfl rfl rfl) rfl ?_)
  clear h a w; intro a w h
  refine wnil (c_then ?_)
  first
   | refine c_condD h rfl (fun ht1 => ?_) (fun ht1 => ?_)
   | refine c_condP h rfl (by first | (simp only [Bool.and_eq_true, Bool.or_eq_true, Bool.not_eq_true', decide_eq_true_eq, decide_eq_false_iff_not, ne_eq, Bool.not_eq_eq_eq_not, Bool.not_true, beq_iff_eq, bne_iff_ne]; exact Iff.rfl) | exact Iff.rfl) (fun ht1 => ?_) (fun ht1 => ?_)
  ·
   as_aux_lemma =>
    refine c_seq (c_region ?_)
    refine wv h (r_assign h rfl) rfl ?_
    clear h a w; intro a w h
    refine wv h (r_assign h rfl) rfl ?_
    clear h a w; intro a w h
    refine wnil (c_then ?_)
    refine c_ret ?_
    exact ret2 h rfl rfl rfl ⟨(), rfl, h.2, trivial⟩
  ·
   exfalso; omega

theorem jn_apply (s w : World) (bj b n : Nat) (D : Dk) (lv : Value) (l : List PgV) (L : List HItem) (i : Nat) (hi : L[i]? = some (JnI bj b D n)) (hok : D.ok) (hac : D.acts + l.length + 1 ≤ 1000000000) (hv : Views (L.eraseIdx i) 2 lv l.length (l.flatMap cellsPg)) (hp : OkV (L.eraseIdx i) l) (hs : Sat s w L) :
    Calls P n_journal_Journal_apply #[dp bj, lv] w (Ret s (fun _ : Unit => .int .i64 (Jn.runW D (Jn.applyW (pgs l))).2) (fun _ => L.set i (JnI bj b (Jn.runW D (Jn.applyW (pgs l))).1 n)) (fun _ => True)) := by
  refine at0 i hi hs fun F hF hs2 => ?_
  rw [← hF] at hv hp
  clear hs hi hF
  replace hs := JnI_open hs2
  clear hs2
  have hlen := Views.len_le hv hs.tail.tail
  refine enter K.fn_journal_Journal_apply rfl K.nt_journal_Journal_apply rfl hs ?_
  clear hs w; intro a w h
  refine c_seq (c_region ?_)
  refine wv h (r_assign h rfl) rfl ?_
  clear h a w; intro a w h
  refine wnil (c_then ?_)
  refine c_seq ?_
  refine c_seq (c_region ?_)
  refine wv h (r_move h rfl) rfl ?_
  clear h a w; intro a w h
  refine wv h (r_lenV h rfl K.u_S_journal_Page (by first | exact Views.own 0 rfl | exact Views.own 1 rfl | exact Views.own 2 rfl | exact Views.own 3 rfl | exact Views.own 4 rfl | exact Views.own 5 rfl | assumption | exact Views.of_drop 1 (by assumption) | exact Views.of_drop 2 (by assumption) | exact Views.of_drop 3 (by assumption) | exact Views.of_drop 4 (by assumption) | exact Views.of_drop 5 (by assumption) | exact Views.of_drop 6 (by assumption) | exact Views.of_drop 7 (by assumption) | exact Views.of_drop 8 (by assumption) | exact Views.of_drop 9 (by assumption) | exact Views.of_drop 10 (by assumption) | exact Views.of_drop 11 (by assumption) | exact Views.of_drop 12 (by assumption))) rfl ?_
  clear h a w; intro a w h
  refine wv h (r_move h rfl) rfl ?_
  clear h a w; intro a w h
  refine wnil (c_then ?_)
  refine c_block ?_
  refine c_loopX h (X := Nat × Dk) (fun x => [(0, dp bj), (8, lv), (9, .int .i64 (l.length : Int)), (10, .int .i64 (x.1 : Int))])
    (fun x => Blk bj (.cells ⟨[dp b, .int .i64 (n : Int)]⟩ t_journal_Journal) :: DiskI b x.2 :: F) (fun x => x.1 ≤ l.length ∧ x.2.ok ∧ x.2.acts ≤ D.acts + x.1 ∧ Jn.runW D (Jn.applyW (pgs l)) = Jn.runW x.2 (Jn.applyW ((pgs l).drop x.1))) (fun x => l.length - x.1) (0, D) (h.keep [0, 8, 9, 10])
    ⟨Nat.zero_le _, hok, by simp, rfl⟩ ?_
  clear h a w; intro x a w hx h
  obtain ⟨j, D1⟩ := x
  obtain ⟨hx1, hx2, hx3, hx4⟩ := hx
  dsimp only at hx1 hx2 hx3 hx4 h
  have hac1 : D1.acts < 1000000000 := by omega
  as_aux_lemma =>
   refine c_seq (c_region ?_)
   refine wv h (r_bin h rfl rfl (B.lss_int)) rfl ?_
   clear h a w; intro a w h
   refine wnil (c_then ?_)
   refine c_seq ?_
   first
    | refine c_condD h rfl (fun ht1 => ?_) (fun ht1 => ?_)
    | refine c_condP h rfl (by first | (simp only [Bool.and_eq_true, Bool.or_eq_true, Bool.not_eq_true', decide_eq_true_eq, decide_eq_false_iff_not, ne_eq, Bool.not_eq_eq_eq_not, Bool.not_true, beq_iff_eq, bne_iff_ne]; exact Iff.rfl) | exact Iff.rfl) (fun ht1 => ?_) (fun ht1 => ?_)
   ·
    obtain ⟨x, hx⟩ : ∃ x, l[j]? = some x := ⟨l[j], by simp⟩
    obtain ⟨hxv, hxa, hxb⟩ := hp x (List.mem_of_getElem? hx)
    have hw := Dk.write'_ok hx2 hac1 (49 + x.at_) x.p
    rw [pgs_drop l hx] at hx4
    change _ = Jn.runW D1 ((49 + x.at_, x.p) :: Jn.applyW ((pgs l).drop (j + 1))) at hx4
    rw [Jn.runW] at hx4
    dsimp only at hx4
    refine c_skip ?_
    refine c_then ?_
    refine c_seq ?_
    refine c_block ?_
    refine c_seq (c_region ?_)
    refine wv h (r_elP h rfl rfl K.u_S_journal_Page K.sz_journal_Page (by first | exact Views.own 0 rfl | exact Views.own 1 rfl | exact Views.own 2 rfl | exact Views.own 3 rfl | exact Views.own 4 rfl | exact Views.own 5 rfl | assumption | exact Views.of_drop 1 (by assumption) | exact Views.of_drop 2 (by assumption) | exact Views.of_drop 3 (by assumption) | exact Views.of_drop 4 (by assumption) | exact Views.of_drop 5 (by assumption) | exact Views.of_drop 6 (by assumption) | exact Views.of_drop 7 (by assumption) | exact Views.of_drop 8 (by assumption) | exact Views.of_drop 9 (by assumption) | exact Views.of_drop 10 (by assumption) | exact Views.of_drop 11 (by assumption) | exact Views.of_drop 12 (by assumption)) (by first | omega | (simp; done)) (by first | omega | (simp only [List.length_cons, List.length_nil]; omega) | (simp; done) | (simp; omega))) rfl ?_
    clear h a w; intro a w h
    first
        | (refine wv h (r_elM h rfl K.u_journal_Page rfl K.sz_journal_Page rfl (by first | exact Views.own 0 rfl | exact Views.own 1 rfl | exact Views.own 2 rfl | exact Views.own 3 rfl | exact Views.own 4 rfl | exact Views.own 5 rfl | assumption | exact Views.of_drop 1 (by assumption) | exact Views.of_drop 2 (by assumption) | exact Views.of_drop 3 (by assumption) | exact Views.of_drop 4 (by assumption) | exact Views.of_drop 5 (by assumption) | exact Views.of_drop 6 (by assumption) | exact Views.of_drop 7 (by assumption) | exact Views.of_drop 8 (by assumption) | exact Views.of_drop 9 (by assumption) | exact Views.of_drop 10 (by assumption) | exact Views.of_drop 11 (by assumption) | exact Views.of_drop 12 (by assumption)) (by assumption)) rfl ?_)
        | (refine wv h (r_elMd h rfl K.u_journal_Page rfl K.sz_journal_Page rfl (by first | exact Views.own 0 rfl | exact Views.own 1 rfl | exact Views.own 2 rfl | exact Views.own 3 rfl | exact Views.own 4 rfl | exact Views.own 5 rfl | assumption | exact Views.of_drop 1 (by assumption) | exact Views.of_drop 2 (by assumption) | exact Views.of_drop 3 (by assumption) | exact Views.of_drop 4 (by assumption) | exact Views.of_drop 5 (by assumption) | exact Views.of_drop 6 (by assumption) | exact Views.of_drop 7 (by assumption) | exact Views.of_drop 8 (by assumption) | exact Views.of_drop 9 (by assumption) | exact Views.of_drop 10 (by assumption) | exact Views.of_drop 11 (by assumption) | exact Views.of_drop 12 (by assumption)) (by first | omega | (simp only [List.length_cons, List.length_nil]; omega) | (simp; done) | (simp; omega))) rfl ?_)
    clear h a w; intro a w h
    refine wl rfl (op_alloc h K.z_journal_Page rfl ?_)
    clear h a w; intro b6 a w h
    first
        | (refine wl rfl (op_stA h rfl rfl K.sz_journal_Page (by first | exact Row.len _ | rfl | assumption | (simp; done) | (simp; omega) | omega) (by first | exact Row.one _ | exact bs_one _ | assumption | (simp; done) | (simp; (repeat' apply And.intro) <;> first | rfl | assumption)) 0 rfl (by first | rfl | assumption | (simp; done) | (simp; omega) | omega) ?_))
        | (refine wl rfl (op_stA h rfl rfl K.sz_journal_Page (by first | exact Row.len _ | rfl | assumption | (simp; done) | (simp; omega) | omega) (by first | exact Row.one _ | exact bs_one _ | assumption | (simp; done) | (simp; (repeat' apply And.intro) <;> first | rfl | assumption)) 1 rfl (by first | rfl | assumption | (simp; done) | (simp; omega) | omega) ?_))
        | (refine wl rfl (op_stA h rfl rfl K.sz_journal_Page (by first | exact Row.len _ | rfl | assumption | (simp; done) | (simp; omega) | omega) (by first | exact Row.one _ | exact bs_one _ | assumption | (simp; done) | (simp; (repeat' apply And.intro) <;> first | rfl | assumption)) 2 rfl (by first | rfl | assumption | (simp; done) | (simp; omega) | omega) ?_))
        | (refine wl rfl (op_stA h rfl rfl K.sz_journal_Page (by first | exact Row.len _ | rfl | assumption | (simp; done) | (simp; omega) | omega) (by first | exact Row.one _ | exact bs_one _ | assumption | (simp; done) | (simp; (repeat' apply And.intro) <;> first | rfl | assumption)) 3 rfl (by first | rfl | assumption | (simp; done) | (simp; omega) | omega) ?_))
        | (refine wl rfl (op_stA h rfl rfl K.sz_journal_Page (by first | exact Row.len _ | rfl | assumption | (simp; done) | (simp; omega) | omega) (by first | exact Row.one _ | exact bs_one _ | assumption | (simp; done) | (simp; (repeat' apply And.intro) <;> first | rfl | assumption)) 4 rfl (by first | rfl | assumption | (simp; done) | (simp; omega) | omega) ?_))
        | (refine wl rfl (op_stA h rfl rfl K.sz_journal_Page (by first | exact Row.len _ | rfl | assumption | (simp; done) | (simp; omega) | omega) (by first | exact Row.one _ | exact bs_one _ | assumption | (simp; done) | (simp; (repeat' apply And.intro) <;> first | rfl | assumption)) 5 rfl (by first | rfl | assumption | (simp; done) | (simp; omega) | omega) ?_))
    clear h a w; intro a w h
    (try simp only [List.set_cons_zero, List.set_cons_succ] at h)
    replace h := h.front 2 rfl
    refine wnil (c_then ?_)
    refine c_seq (c_drawn 11 K.mixed rfl h ?_)
    clear h a w; intro a w h
    have hD : Paid s w [] := Paid.nil
    refine d_take0 (listed' := #[true, false, false, false, false, false, false, false, false, false, false]) h hD 0 (by as_aux_lemma => kernel_rfl) rfl (by as_aux_lemma => kernel_rfl) (by as_aux_lemma => kernel_rfl) (by as_aux_lemma => kernel_rfl) (fun _ _ _ _ hh => hh) (fun w h => by first | exact r_move h rfl) rfl ?_
    clear hD h a w; intro a w h hD
    refine d_take0 (listed' := #[true, true, false, false, false, false, false, false, false, false, false]) h hD 1 (by as_aux_lemma => kernel_rfl) rfl (by as_aux_lemma => kernel_rfl) (by as_aux_lemma => kernel_rfl) (by as_aux_lemma => kernel_rfl) (fun _ _ _ _ hh => hh) (fun w h => by first | exact r_nilCheck h rfl) rfl ?_
    clear hD h a w; intro a w h hD
    refine d_take0 (listed' := #[true, true, true, false, false, false, false, false, false, false, false]) h hD 2 (by as_aux_lemma => kernel_rfl) rfl (by as_aux_lemma => kernel_rfl) (by as_aux_lemma => kernel_rfl) (by as_aux_lemma => kernel_rfl) (fun _ _ _ _ hh => hh) (fun w h => by first | exact r_fieldAddr0 h rfl K.u_journal_Journal rfl K.sz_p_disk_Disk rfl rfl) rfl ?_
    clear hD h a w; intro a w h hD
    refine d_take (listed' := #[true, true, true, true, false, false, false, false, false, false, false]) h hD 3 _ (by as_aux_lemma => kernel_rfl) rfl (by as_aux_lemma => kernel_rfl) (by as_aux_lemma => kernel_rfl) (by as_aux_lemma => kernel_rfl) (fun _ _ _ _ hh => hh) h.2 (fun w hw => by first | exact r_ldN ⟨h.1, hw⟩ rfl K.u_p_disk_Disk rfl 0 rfl rfl | exact r_ldN ⟨h.1, hw⟩ rfl K.u_p_disk_Disk rfl 1 rfl rfl | exact r_ldN ⟨h.1, hw⟩ rfl K.u_p_disk_Disk rfl 2 rfl rfl | exact r_ldN ⟨h.1, hw⟩ rfl K.u_p_disk_Disk rfl 3 rfl rfl | exact r_ldN ⟨h.1, hw⟩ rfl K.u_p_disk_Disk rfl 4 rfl rfl | exact r_ldN ⟨h.1, hw⟩ rfl K.u_p_disk_Disk rfl 5 rfl rfl | exact r_ldN ⟨h.1, hw⟩ rfl K.u_p_disk_Disk rfl 6 rfl rfl | exact r_ldC (o := 0) ⟨h.1, hw⟩ rfl K.u_p_disk_Disk rfl 0 rfl | exact r_ldC (o := 0) ⟨h.1, hw⟩ rfl K.u_p_disk_Disk rfl 1 rfl | exact r_ldC (o := 0) ⟨h.1, hw⟩ rfl K.u_p_disk_Disk rfl 2 rfl | exact r_ldC (o := 0) ⟨h.1, hw⟩ rfl K.u_p_disk_Disk rfl 3 rfl | exact r_ldC (o := 0) ⟨h.1, hw⟩ rfl K.u_p_disk_Disk rfl 4 rfl | exact r_ldC (o := 0) ⟨h.1, hw⟩ rfl K.u_p_disk_Disk rfl 5 rfl | exact r_ldC (o := 0) ⟨h.1, hw⟩ rfl K.u_p_disk_Disk rfl 6 rfl | exact r_load ⟨h.1, hw⟩ rfl K.u_p_disk_Disk rfl 0 rfl rfl | exact r_load ⟨h.1, hw⟩ rfl K.u_p_disk_Disk rfl 1 rfl rfl | exact r_load ⟨h.1, hw⟩ rfl K.u_p_disk_Disk rfl 2 rfl rfl | exact r_load ⟨h.1, hw⟩ rfl K.u_p_disk_Disk rfl 3 rfl rfl | exact r_load ⟨h.1, hw⟩ rfl K.u_p_disk_Disk rfl 4 rfl rfl | exact r_load ⟨h.1, hw⟩ rfl K.u_p_disk_Disk rfl 5 rfl rfl | exact r_load1 ⟨h.1, hw⟩ rfl K.u_p_disk_Disk rfl (by assumption)) rfl ?_
    clear hD h a w; intro a w h hD
    refine d_take0 (listed' := #[true, true, true, true, true, false, false, false, false, false, false]) h hD 4 (by as_aux_lemma => kernel_rfl) rfl (by as_aux_lemma => kernel_rfl) (by as_aux_lemma => kernel_rfl) (by as_aux_lemma => kernel_rfl) (fun _ _ _ _ hh => hh) (fun w h => by first | exact r_fieldAddr0 h rfl K.u_journal_Page rfl K.sz_int rfl rfl) rfl ?_
    clear hD h a w; intro a w h hD
    refine d_take (listed' := #[true, true, true, true, true, true, false, false, false, false, false]) h hD 5 ((Blk b6 (.cells ⟨cellsPg x⟩ t_journal_Page) :: Blk bj (.cells ⟨[dp b, .int .i64 (n : Int)]⟩ t_journal_Journal) :: F)) (by as_aux_lemma => kernel_rfl) rfl (by as_aux_lemma => kernel_rfl) (by as_aux_lemma => kernel_rfl) (by as_aux_lemma => kernel_rfl) (fun _ _ _ _ hh => hh) (by first | exact h.2 | exact h.2.drop 1 | exact h.2.drop 2 | exact h.2.drop 3 | exact h.2.drop 4 | exact h.2.drop 5 | exact h.2.drop 6 | exact h.2.drop 7) (fun w hw => by first | exact r_ldN ⟨h.1, hw⟩ rfl K.u_int rfl 0 rfl rfl | exact r_ldN ⟨h.1, hw⟩ rfl K.u_int rfl 1 rfl rfl | exact r_ldN ⟨h.1, hw⟩ rfl K.u_int rfl 2 rfl rfl | exact r_ldN ⟨h.1, hw⟩ rfl K.u_int rfl 3 rfl rfl | exact r_ldN ⟨h.1, hw⟩ rfl K.u_int rfl 4 rfl rfl | exact r_ldN ⟨h.1, hw⟩ rfl K.u_int rfl 5 rfl rfl | exact r_ldN ⟨h.1, hw⟩ rfl K.u_int rfl 6 rfl rfl | exact r_ldC (o := 0) ⟨h.1, hw⟩ rfl K.u_int rfl 0 rfl | exact r_ldC (o := 0) ⟨h.1, hw⟩ rfl K.u_int rfl 1 rfl | exact r_ldC (o := 0) ⟨h.1, hw⟩ rfl K.u_int rfl 2 rfl | exact r_ldC (o := 0) ⟨h.1, hw⟩ rfl K.u_int rfl 3 rfl | exact r_ldC (o := 0) ⟨h.1, hw⟩ rfl K.u_int rfl 4 rfl | exact r_ldC (o := 0) ⟨h.1, hw⟩ rfl K.u_int rfl 5 rfl | exact r_ldC (o := 0) ⟨h.1, hw⟩ rfl K.u_int rfl 6 rfl | exact r_load ⟨h.1, hw⟩ rfl K.u_int rfl 0 rfl rfl | exact r_load ⟨h.1, hw⟩ rfl K.u_int rfl 1 rfl rfl | exact r_load ⟨h.1, hw⟩ rfl K.u_int rfl 2 rfl rfl | exact r_load ⟨h.1, hw⟩ rfl K.u_int rfl 3 rfl rfl | exact r_load ⟨h.1, hw⟩ rfl K.u_int rfl 4 rfl rfl | exact r_load ⟨h.1, hw⟩ rfl K.u_int rfl 5 rfl rfl | exact r_load1 ⟨h.1, hw⟩ rfl K.u_int rfl (by assumption)) rfl ?_
    clear hD h a w; intro a w h hD
    refine d_take0 (listed' := #[true, true, true, true, true, true, true, false, false, false, false]) h hD 6 (by as_aux_lemma => kernel_rfl) rfl (by as_aux_lemma => kernel_rfl) (by as_aux_lemma => kernel_rfl) (by as_aux_lemma => kernel_rfl) (fun _ _ _ _ hh => hh) (fun w h => by first | exact r_bin h rfl rfl (B.add_i64 (by omega) (by omega))) rfl ?_
    clear hD h a w; intro a w h hD
    refine d_take0 (listed' := #[true, true, true, true, true, true, true, true, false, false, false]) h hD 7 (by as_aux_lemma => kernel_rfl) rfl (by as_aux_lemma => kernel_rfl) (by as_aux_lemma => kernel_rfl) (by as_aux_lemma => kernel_rfl) (fun _ _ _ _ hh => hh) (fun w h => by first | exact r_fieldAddr h 1 rfl K.u_journal_Page rfl K.sz_S_uint8 rfl rfl) rfl ?_
    clear hD h a w; intro a w h hD
    refine d_take (listed' := #[true, true, true, true, true, true, true, true, true, false, false]) h hD 8 _ (by as_aux_lemma => kernel_rfl) rfl (by as_aux_lemma => kernel_rfl) (by as_aux_lemma => kernel_rfl) (by as_aux_lemma => kernel_rfl) (fun _ _ _ _ hh => hh) h.2 (fun w hw => by first | exact r_ldN ⟨h.1, hw⟩ rfl K.u_S_uint8 rfl 0 rfl rfl | exact r_ldN ⟨h.1, hw⟩ rfl K.u_S_uint8 rfl 1 rfl rfl | exact r_ldN ⟨h.1, hw⟩ rfl K.u_S_uint8 rfl 2 rfl rfl | exact r_ldN ⟨h.1, hw⟩ rfl K.u_S_uint8 rfl 3 rfl rfl | exact r_ldN ⟨h.1, hw⟩ rfl K.u_S_uint8 rfl 4 rfl rfl | exact r_ldN ⟨h.1, hw⟩ rfl K.u_S_uint8 rfl 5 rfl rfl | exact r_ldN ⟨h.1, hw⟩ rfl K.u_S_uint8 rfl 6 rfl rfl | exact r_ldC (o := 1) ⟨h.1, hw⟩ rfl K.u_S_uint8 rfl 0 rfl | exact r_ldC (o := 1) ⟨h.1, hw⟩ rfl K.u_S_uint8 rfl 1 rfl | exact r_ldC (o := 1) ⟨h.1, hw⟩ rfl K.u_S_uint8 rfl 2 rfl | exact r_ldC (o := 1) ⟨h.1, hw⟩ rfl K.u_S_uint8 rfl 3 rfl | exact r_ldC (o := 1) ⟨h.1, hw⟩ rfl K.u_S_uint8 rfl 4 rfl | exact r_ldC (o := 1) ⟨h.1, hw⟩ rfl K.u_S_uint8 rfl 5 rfl | exact r_ldC (o := 1) ⟨h.1, hw⟩ rfl K.u_S_uint8 rfl 6 rfl | exact r_load ⟨h.1, hw⟩ rfl K.u_S_uint8 rfl 0 rfl rfl | exact r_load ⟨h.1, hw⟩ rfl K.u_S_uint8 rfl 1 rfl rfl | exact r_load ⟨h.1, hw⟩ rfl K.u_S_uint8 rfl 2 rfl rfl | exact r_load ⟨h.1, hw⟩ rfl K.u_S_uint8 rfl 3 rfl rfl | exact r_load ⟨h.1, hw⟩ rfl K.u_S_uint8 rfl 4 rfl rfl | exact r_load ⟨h.1, hw⟩ rfl K.u_S_uint8 rfl 5 rfl rfl | exact r_load1 ⟨h.1, hw⟩ rfl K.u_S_uint8 rfl (by assumption)) rfl ?_
    clear hD h a w; intro a w h hD
    refine d_only (listed' := #[true, true, true, true, true, true, true, true, true, true, false]) 9 [false, true, false] (by as_aux_lemma => kernel_rfl) rfl rfl (by as_aux_lemma => kernel_rfl) (by as_aux_lemma => kernel_rfl) ?_
    first
        | (refine op_call h rfl K.go_disk_Disk_Write (disk_Write s _ _ _ _ _ _ _ 0 rfl (by first | assumption | exact Dk.OkN.ok' (by decide)) (by first | assumption | omega) (by first | exact ViewsB.own 0 rfl | exact ViewsB.own 1 rfl | exact ViewsB.own 2 rfl | exact ViewsB.own 3 rfl | exact ViewsB.own 4 rfl | exact ViewsB.own 5 rfl | assumption | exact ViewsB.nil _ | exact ViewsB.arr 0 rfl (by first | assumption | rfl | (simp; done)) (Nat.le_refl _) (by simp [maxLen]) | exact ViewsB.arr 1 rfl (by first | assumption | rfl | (simp; done)) (Nat.le_refl _) (by simp [maxLen]) | exact ViewsB.arr 2 rfl (by first | assumption | rfl | (simp; done)) (Nat.le_refl _) (by simp [maxLen]) | exact ViewsB.arr 3 rfl (by first | assumption | rfl | (simp; done)) (Nat.le_refl _) (by simp [maxLen]) | exact ViewsB.arr 4 rfl (by first | assumption | rfl | (simp; done)) (Nat.le_refl _) (by simp [maxLen]) | exact ViewsB.of_drop 1 (by assumption) | exact ViewsB.of_drop 2 (by assumption) | exact ViewsB.of_drop 3 (by assumption) | exact ViewsB.of_drop 4 (by assumption) | exact ViewsB.of_drop 5 (by assumption) | exact ViewsB.of_drop 6 (by assumption) | exact ViewsB.of_drop 7 (by assumption) | exact ViewsB.of_drop 8 (by assumption) | exact ViewsB.of_drop 9 (by assumption) | exact ViewsB.of_drop 10 (by assumption) | exact ViewsB.of_drop 11 (by assumption) | exact ViewsB.of_drop 12 (by assumption) | exact ViewsB.sub (by first | exact ViewsB.own 0 rfl | exact ViewsB.own 1 rfl | exact ViewsB.own 2 rfl | exact ViewsB.own 3 rfl | exact ViewsB.own 4 rfl | exact ViewsB.own 5 rfl | assumption | exact ViewsB.nil _ | exact ViewsB.arr 0 rfl (by first | assumption | rfl | (simp; done)) (Nat.le_refl _) (by simp [maxLen]) | exact ViewsB.arr 1 rfl (by first | assumption | rfl | (simp; done)) (Nat.le_refl _) (by simp [maxLen]) | exact ViewsB.arr 2 rfl (by first | assumption | rfl | (simp; done)) (Nat.le_refl _) (by simp [maxLen]) | exact ViewsB.arr 3 rfl (by first | assumption | rfl | (simp; done)) (Nat.le_refl _) (by simp [maxLen]) | exact ViewsB.arr 4 rfl (by first | assumption | rfl | (simp; done)) (Nat.le_refl _) (by simp [maxLen]) | exact ViewsB.of_drop 1 (by assumption) | exact ViewsB.of_drop 2 (by assumption) | exact ViewsB.of_drop 3 (by assumption) | exact ViewsB.of_drop 4 (by assumption) | exact ViewsB.of_drop 5 (by assumption) | exact ViewsB.of_drop 6 (by assumption) | exact ViewsB.of_drop 7 (by assumption) | exact ViewsB.of_drop 8 (by assumption) | exact ViewsB.of_drop 9 (by assumption) | exact ViewsB.of_drop 10 (by assumption) | exact ViewsB.of_drop 11 (by assumption) | exact ViewsB.of_drop 12 (by assumption)) (by omega) (by first | omega | (simp; done) | (simp; omega))) h.2) rfl ?_)
        | (refine op_call h rfl K.go_disk_Disk_Write (disk_Write s _ _ _ _ _ _ _ 1 rfl (by first | assumption | exact Dk.OkN.ok' (by decide)) (by first | assumption | omega) (by first | exact ViewsB.own 0 rfl | exact ViewsB.own 1 rfl | exact ViewsB.own 2 rfl | exact ViewsB.own 3 rfl | exact ViewsB.own 4 rfl | exact ViewsB.own 5 rfl | assumption | exact ViewsB.nil _ | exact ViewsB.arr 0 rfl (by first | assumption | rfl | (simp; done)) (Nat.le_refl _) (by simp [maxLen]) | exact ViewsB.arr 1 rfl (by first | assumption | rfl | (simp; done)) (Nat.le_refl _) (by simp [maxLen]) | exact ViewsB.arr 2 rfl (by first | assumption | rfl | (simp; done)) (Nat.le_refl _) (by simp [maxLen]) | exact ViewsB.arr 3 rfl (by first | assumption | rfl | (simp; done)) (Nat.le_refl _) (by simp [maxLen]) | exact ViewsB.arr 4 rfl (by first | assumption | rfl | (simp; done)) (Nat.le_refl _) (by simp [maxLen]) | exact ViewsB.of_drop 1 (by assumption) | exact ViewsB.of_drop 2 (by assumption) | exact ViewsB.of_drop 3 (by assumption) | exact ViewsB.of_drop 4 (by assumption) | exact ViewsB.of_drop 5 (by assumption) | exact ViewsB.of_drop 6 (by assumption) | exact ViewsB.of_drop 7 (by assumption) | exact ViewsB.of_drop 8 (by assumption) | exact ViewsB.of_drop 9 (by assumption) | exact ViewsB.of_drop 10 (by assumption) | exact ViewsB.of_drop 11 (by assumption) | exact ViewsB.of_drop 12 (by assumption) | exact ViewsB.sub (by first | exact ViewsB.own 0 rfl | exact ViewsB.own 1 rfl | exact ViewsB.own 2 rfl | exact ViewsB.own 3 rfl | exact ViewsB.own 4 rfl | exact ViewsB.own 5 rfl | assumption | exact ViewsB.nil _ | exact ViewsB.arr 0 rfl (by first | assumption | rfl | (simp; done)) (Nat.le_refl _) (by simp [maxLen]) | exact ViewsB.arr 1 rfl (by first | assumption | rfl | (simp; done)) (Nat.le_refl _) (by simp [maxLen]) | exact ViewsB.arr 2 rfl (by first | assumption | rfl | (simp; done)) (Nat.le_refl _) (by simp [maxLen]) | exact ViewsB.arr 3 rfl (by first | assumption | rfl | (simp; done)) (Nat.le_refl _) (by simp [maxLen]) | exact ViewsB.arr 4 rfl (by first | assumption | rfl | (simp; done)) (Nat.le_refl _) (by simp [maxLen]) | exact ViewsB.of_drop 1 (by assumption) | exact ViewsB.of_drop 2 (by assumption) | exact ViewsB.of_drop 3 (by assumption) | exact ViewsB.of_drop 4 (by assumption) | exact ViewsB.of_drop 5 (by assumption) | exact ViewsB.of_drop 6 (by assumption) | exact ViewsB.of_drop 7 (by assumption) | exact ViewsB.of_drop 8 (by assumption) | exact ViewsB.of_drop 9 (by assumption) | exact ViewsB.of_drop 10 (by assumption) | exact ViewsB.of_drop 11 (by assumption) | exact ViewsB.of_drop 12 (by assumption)) (by omega) (by first | omega | (simp; done) | (simp; omega))) h.2) rfl ?_)
        | (refine op_call h rfl K.go_disk_Disk_Write (disk_Write s _ _ _ _ _ _ _ 2 rfl (by first | assumption | exact Dk.OkN.ok' (by decide)) (by first | assumption | omega) (by first | exact ViewsB.own 0 rfl | exact ViewsB.own 1 rfl | exact ViewsB.own 2 rfl | exact ViewsB.own 3 rfl | exact ViewsB.own 4 rfl | exact ViewsB.own 5 rfl | assumption | exact ViewsB.nil _ | exact ViewsB.arr 0 rfl (by first | assumption | rfl | (simp; done)) (Nat.le_refl _) (by simp [maxLen]) | exact ViewsB.arr 1 rfl (by first | assumption | rfl | (simp; done)) (Nat.le_refl _) (by simp [maxLen]) | exact ViewsB.arr 2 rfl (by first | assumption | rfl | (simp; done)) (Nat.le_refl _) (by simp [maxLen]) | exact ViewsB.arr 3 rfl (by first | assumption | rfl | (simp; done)) (Nat.le_refl _) (by simp [maxLen]) | exact ViewsB.arr 4 rfl (by first | assumption | rfl | (simp; done)) (Nat.le_refl _) (by simp [maxLen]) | exact ViewsB.of_drop 1 (by assumption) | exact ViewsB.of_drop 2 (by assumption) | exact ViewsB.of_drop 3 (by assumption) | exact ViewsB.of_drop 4 (by assumption) | exact ViewsB.of_drop 5 (by assumption) | exact ViewsB.of_drop 6 (by assumption) | exact ViewsB.of_drop 7 (by assumption) | exact ViewsB.of_drop 8 (by assumption) | exact ViewsB.of_drop 9 (by assumption) | exact ViewsB.of_drop 10 (by assumption) | exact ViewsB.of_drop 11 (by assumption) | exact ViewsB.of_drop 12 (by assumption) | exact ViewsB.sub (by first | exact ViewsB.own 0 rfl | exact ViewsB.own 1 rfl | exact ViewsB.own 2 rfl | exact ViewsB.own 3 rfl | exact ViewsB.own 4 rfl | exact ViewsB.own 5 rfl | assumption | exact ViewsB.nil _ | exact ViewsB.arr 0 rfl (by first | assumption | rfl | (simp; done)) (Nat.le_refl _) (by simp [maxLen]) | exact ViewsB.arr 1 rfl (by first | assumption | rfl | (simp; done)) (Nat.le_refl _) (by simp [maxLen]) | exact ViewsB.arr 2 rfl (by first | assumption | rfl | (simp; done)) (Nat.le_refl _) (by simp [maxLen]) | exact ViewsB.arr 3 rfl (by first | assumption | rfl | (simp; done)) (Nat.le_refl _) (by simp [maxLen]) | exact ViewsB.arr 4 rfl (by first | assumption | rfl | (simp; done)) (Nat.le_refl _) (by simp [maxLen]) | exact ViewsB.of_drop 1 (by assumption) | exact ViewsB.of_drop 2 (by assumption) | exact ViewsB.of_drop 3 (by assumption) | exact ViewsB.of_drop 4 (by assumption) | exact ViewsB.of_drop 5 (by assumption) | exact ViewsB.of_drop 6 (by assumption) | exact ViewsB.of_drop 7 (by assumption) | exact ViewsB.of_drop 8 (by assumption) | exact ViewsB.of_drop 9 (by assumption) | exact ViewsB.of_drop 10 (by assumption) | exact ViewsB.of_drop 11 (by assumption) | exact ViewsB.of_drop 12 (by assumption)) (by omega) (by first | omega | (simp; done) | (simp; omega))) h.2) rfl ?_)
        | (refine op_call h rfl K.go_disk_Disk_Write (disk_Write s _ _ _ _ _ _ _ 3 rfl (by first | assumption | exact Dk.OkN.ok' (by decide)) (by first | assumption | omega) (by first | exact ViewsB.own 0 rfl | exact ViewsB.own 1 rfl | exact ViewsB.own 2 rfl | exact ViewsB.own 3 rfl | exact ViewsB.own 4 rfl | exact ViewsB.own 5 rfl | assumption | exact ViewsB.nil _ | exact ViewsB.arr 0 rfl (by first | assumption | rfl | (simp; done)) (Nat.le_refl _) (by simp [maxLen]) | exact ViewsB.arr 1 rfl (by first | assumption | rfl | (simp; done)) (Nat.le_refl _) (by simp [maxLen]) | exact ViewsB.arr 2 rfl (by first | assumption | rfl | (simp; done)) (Nat.le_refl _) (by simp [maxLen]) | exact ViewsB.arr 3 rfl (by first | assumption | rfl | (simp; done)) (Nat.le_refl _) (by simp [maxLen]) | exact ViewsB.arr 4 rfl (by first | assumption | rfl | (simp; done)) (Nat.le_refl _) (by simp [maxLen]) | exact ViewsB.of_drop 1 (by assumption) | exact ViewsB.of_drop 2 (by assumption) | exact ViewsB.of_drop 3 (by assumption) | exact ViewsB.of_drop 4 (by assumption) | exact ViewsB.of_drop 5 (by assumption) | exact ViewsB.of_drop 6 (by assumption) | exact ViewsB.of_drop 7 (by assumption) | exact ViewsB.of_drop 8 (by assumption) | exact ViewsB.of_drop 9 (by assumption) | exact ViewsB.of_drop 10 (by assumption) | exact ViewsB.of_drop 11 (by assumption) | exact ViewsB.of_drop 12 (by assumption) | exact ViewsB.sub (by first | exact ViewsB.own 0 rfl | exact ViewsB.own 1 rfl | exact ViewsB.own 2 rfl | exact ViewsB.own 3 rfl | exact ViewsB.own 4 rfl | exact ViewsB.own 5 rfl | assumption | exact ViewsB.nil _ | exact ViewsB.arr 0 rfl (by first | assumption | rfl | (simp; done)) (Nat.le_refl _) (by simp [maxLen]) | exact ViewsB.arr 1 rfl (by first | assumption | rfl | (simp; done)) (Nat.le_refl _) (by simp [maxLen]) | exact ViewsB.arr 2 rfl (by first | assumption | rfl | (simp; done)) (Nat.le_refl _) (by simp [maxLen]) | exact ViewsB.arr 3 rfl (by first | assumption | rfl | (simp; done)) (Nat.le_refl _) (by simp [maxLen]) | exact ViewsB.arr 4 rfl (by first | assumption | rfl | (simp; done)) (Nat.le_refl _) (by simp [maxLen]) | exact ViewsB.of_drop 1 (by assumption) | exact ViewsB.of_drop 2 (by assumption) | exact ViewsB.of_drop 3 (by assumption) | exact ViewsB.of_drop 4 (by assumption) | exact ViewsB.of_drop 5 (by assumption) | exact ViewsB.of_drop 6 (by assumption) | exact ViewsB.of_drop 7 (by assumption) | exact ViewsB.of_drop 8 (by assumption) | exact ViewsB.of_drop 9 (by assumption) | exact ViewsB.of_drop 10 (by assumption) | exact ViewsB.of_drop 11 (by assumption) | exact ViewsB.of_drop 12 (by assumption)) (by omega) (by first | omega | (simp; done) | (simp; omega))) h.2) rfl ?_)
        | (refine op_call h rfl K.go_disk_Disk_Write (disk_Write s _ _ _ _ _ _ _ 4 rfl (by first | assumption | exact Dk.OkN.ok' (by decide)) (by first | assumption | omega) (by first | exact ViewsB.own 0 rfl | exact ViewsB.own 1 rfl | exact ViewsB.own 2 rfl | exact ViewsB.own 3 rfl | exact ViewsB.own 4 rfl | exact ViewsB.own 5 rfl | assumption | exact ViewsB.nil _ | exact ViewsB.arr 0 rfl (by first | assumption | rfl | (simp; done)) (Nat.le_refl _) (by simp [maxLen]) | exact ViewsB.arr 1 rfl (by first | assumption | rfl | (simp; done)) (Nat.le_refl _) (by simp [maxLen]) | exact ViewsB.arr 2 rfl (by first | assumption | rfl | (simp; done)) (Nat.le_refl _) (by simp [maxLen]) | exact ViewsB.arr 3 rfl (by first | assumption | rfl | (simp; done)) (Nat.le_refl _) (by simp [maxLen]) | exact ViewsB.arr 4 rfl (by first | assumption | rfl | (simp; done)) (Nat.le_refl _) (by simp [maxLen]) | exact ViewsB.of_drop 1 (by assumption) | exact ViewsB.of_drop 2 (by assumption) | exact ViewsB.of_drop 3 (by assumption) | exact ViewsB.of_drop 4 (by assumption) | exact ViewsB.of_drop 5 (by assumption) | exact ViewsB.of_drop 6 (by assumption) | exact ViewsB.of_drop 7 (by assumption) | exact ViewsB.of_drop 8 (by assumption) | exact ViewsB.of_drop 9 (by assumption) | exact ViewsB.of_drop 10 (by assumption) | exact ViewsB.of_drop 11 (by assumption) | exact ViewsB.of_drop 12 (by assumption) | exact ViewsB.sub (by first | exact ViewsB.own 0 rfl | exact ViewsB.own 1 rfl | exact ViewsB.own 2 rfl | exact ViewsB.own 3 rfl | exact ViewsB.own 4 rfl | exact ViewsB.own 5 rfl | assumption | exact ViewsB.nil _ | exact ViewsB.arr 0 rfl (by first | assumption | rfl | (simp; done)) (Nat.le_refl _) (by simp [maxLen]) | exact ViewsB.arr 1 rfl (by first | assumption | rfl | (simp; done)) (Nat.le_refl _) (by simp [maxLen]) | exact ViewsB.arr 2 rfl (by first | assumption | rfl | (simp; done)) (Nat.le_refl _) (by simp [maxLen]) | exact ViewsB.arr 3 rfl (by first | assumption | rfl | (simp; done)) (Nat.le_refl _) (by simp [maxLen]) | exact ViewsB.arr 4 rfl (by first | assumption | rfl | (simp; done)) (Nat.le_refl _) (by simp [maxLen]) | exact ViewsB.of_drop 1 (by assumption) | exact ViewsB.of_drop 2 (by assumption) | exact ViewsB.of_drop 3 (by assumption) | exact ViewsB.of_drop 4 (by assumption) | exact ViewsB.of_drop 5 (by assumption) | exact ViewsB.of_drop 6 (by assumption) | exact ViewsB.of_drop 7 (by assumption) | exact ViewsB.of_drop 8 (by assumption) | exact ViewsB.of_drop 9 (by assumption) | exact ViewsB.of_drop 10 (by assumption) | exact ViewsB.of_drop 11 (by assumption) | exact ViewsB.of_drop 12 (by assumption)) (by omega) (by first | omega | (simp; done) | (simp; omega))) h.2) rfl ?_)
        | (refine op_call h rfl K.go_disk_Disk_Write (disk_Write s _ _ _ _ _ _ _ 5 rfl (by first | assumption | exact Dk.OkN.ok' (by decide)) (by first | assumption | omega) (by first | exact ViewsB.own 0 rfl | exact ViewsB.own 1 rfl | exact ViewsB.own 2 rfl | exact ViewsB.own 3 rfl | exact ViewsB.own 4 rfl | exact ViewsB.own 5 rfl | assumption | exact ViewsB.nil _ | exact ViewsB.arr 0 rfl (by first | assumption | rfl | (simp; done)) (Nat.le_refl _) (by simp [maxLen]) | exact ViewsB.arr 1 rfl (by first | assumption | rfl | (simp; done)) (Nat.le_refl _) (by simp [maxLen]) | exact ViewsB.arr 2 rfl (by first | assumption | rfl | (simp; done)) (Nat.le_refl _) (by simp [maxLen]) | exact ViewsB.arr 3 rfl (by first | assumption | rfl | (simp; done)) (Nat.le_refl _) (by simp [maxLen]) | exact ViewsB.arr 4 rfl (by first | assumption | rfl | (simp; done)) (Nat.le_refl _) (by simp [maxLen]) | exact ViewsB.of_drop 1 (by assumption) | exact ViewsB.of_drop 2 (by assumption) | exact ViewsB.of_drop 3 (by assumption) | exact ViewsB.of_drop 4 (by assumption) | exact ViewsB.of_drop 5 (by assumption) | exact ViewsB.of_drop 6 (by assumption) | exact ViewsB.of_drop 7 (by assumption) | exact ViewsB.of_drop 8 (by assumption) | exact ViewsB.of_drop 9 (by assumption) | exact ViewsB.of_drop 10 (by assumption) | exact ViewsB.of_drop 11 (by assumption) | exact ViewsB.of_drop 12 (by assumption) | exact ViewsB.sub (by first | exact ViewsB.own 0 rfl | exact ViewsB.own 1 rfl | exact ViewsB.own 2 rfl | exact ViewsB.own 3 rfl | exact ViewsB.own 4 rfl | exact ViewsB.own 5 rfl | assumption | exact ViewsB.nil _ | exact ViewsB.arr 0 rfl (by first | assumption | rfl | (simp; done)) (Nat.le_refl _) (by simp [maxLen]) | exact ViewsB.arr 1 rfl (by first | assumption | rfl | (simp; done)) (Nat.le_refl _) (by simp [maxLen]) | exact ViewsB.arr 2 rfl (by first | assumption | rfl | (simp; done)) (Nat.le_refl _) (by simp [maxLen]) | exact ViewsB.arr 3 rfl (by first | assumption | rfl | (simp; done)) (Nat.le_refl _) (by simp [maxLen]) | exact ViewsB.arr 4 rfl (by first | assumption | rfl | (simp; done)) (Nat.le_refl _) (by simp [maxLen]) | exact ViewsB.of_drop 1 (by assumption) | exact ViewsB.of_drop 2 (by assumption) | exact ViewsB.of_drop 3 (by assumption) | exact ViewsB.of_drop 4 (by assumption) | exact ViewsB.of_drop 5 (by assumption) | exact ViewsB.of_drop 6 (by assumption) | exact ViewsB.of_drop 7 (by assumption) | exact ViewsB.of_drop 8 (by assumption) | exact ViewsB.of_drop 9 (by assumption) | exact ViewsB.of_drop 10 (by assumption) | exact ViewsB.of_drop 11 (by assumption) | exact ViewsB.of_drop 12 (by assumption)) (by omega) (by first | omega | (simp; done) | (simp; omega))) h.2) rfl ?_)
    clear hD h a w; intro y a w hy h
    (try simp only [List.set_cons_zero, List.set_cons_succ] at h)
    refine d_pay (Paid.cons (by first | exact h.2 | exact h.2.drop 1 | exact h.2.drop 2 | exact h.2.drop 3 | exact h.2.drop 4 | exact h.2.drop 5 | exact h.2.drop 6 | exact h.2.drop 7) (Paid.nil)) (fun hD => ?_)
    refine d_take0 (listed' := #[true, true, true, true, true, true, true, true, true, true, true]) h hD 10 (by as_aux_lemma => kernel_rfl) rfl (by as_aux_lemma => kernel_rfl) (by as_aux_lemma => kernel_rfl) (by as_aux_lemma => kernel_rfl) (fun _ _ _ _ hh => hh) (fun w h => by first | exact r_assign h rfl) rfl ?_
    clear hD h a w; intro a w h hD
    refine d_done (by kernel_rfl) ?_
    clear hD
    refine c_then ?_
    refine c_seq (c_region ?_)
    refine wv h (r_move h rfl) rfl ?_
    clear h a w; intro a w h
    refine wv h (r_bin h rfl rfl (B.neq_int)) rfl ?_
    clear h a w; intro a w h
    refine wnil (c_then ?_)
    first
     | refine c_condD h rfl (fun ht2 => ?_) (fun ht2 => ?_)
     | refine c_condP h rfl (by first | (simp only [Bool.and_eq_true, Bool.or_eq_true, Bool.not_eq_true', decide_eq_true_eq, decide_eq_false_iff_not, ne_eq, Bool.not_eq_eq_eq_not, Bool.not_true, beq_iff_eq, bne_iff_ne]; exact Iff.rfl) | exact Iff.rfl) (fun ht2 => ?_) (fun ht2 => ?_)
    ·
     as_aux_lemma =>
      refine c_seq (c_region ?_)
      refine wv h (r_move h rfl) rfl ?_
      clear h a w; intro a w h
      refine wv h (r_assign h rfl) rfl ?_
      clear h a w; intro a w h
      refine wnil (c_then ?_)
      refine c_ret ?_
      rw [if_neg ht2] at hx4
      rw [hx4]
      exact ret1 h rfl rfl ⟨(), rfl, JnI_shut ((h.2.rid 1).front 1 rfl), trivial⟩
    ·
     refine c_skip ?_
     refine b_normal ?_
     refine c_then ?_
     refine c_region ?_
     refine wv h (r_bin h rfl rfl (B.add_i64 (by omega) (by omega))) rfl ?_
     clear h a w; intro a w h
     refine wv h (r_move h rfl) rfl ?_
     clear h a w; intro a w h
     refine wnil ?_
     rw [if_pos (by simpa using ht2)] at hx4
     exact ⟨(j + 1, D1.write' (49 + x.at_) x.p), h.mem (fun z => (z.rid 1).front 1 rfl) |>.keep [0, 8, 9, 10], ⟨by show j + 1 ≤ _; omega, hw.1, by have := hw.2; dsimp only; omega, hx4⟩, by show l.length - (j + 1) < l.length - j; omega⟩
   ·
    obtain rfl : j = l.length := by omega
    rw [show (pgs l).drop l.length = [] by rw [← pgs_len l, List.drop_length]] at hx4
    change _ = Jn.runW D1 [] at hx4
    rw [Jn.runW] at hx4
    refine c_exit ?_
    refine e_then ?_
    refine e_then ?_
    refine e_here ?_
    refine c_then ?_
    refine c_seq (c_region ?_)
    refine wv h (r_move h rfl) rfl ?_
    clear h a w; intro a w h
    refine wv h (r_nilCheck h rfl) rfl ?_
    clear h a w; intro a w h
    refine wv h (r_fieldAddr0 h rfl K.u_journal_Journal rfl K.sz_p_disk_Disk rfl rfl) rfl ?_
    clear h a w; intro a w h
    first
        | (refine wv h (r_ldN h rfl K.u_p_disk_Disk rfl 0 rfl rfl) rfl ?_)
        | (refine wv h (r_ldN h rfl K.u_p_disk_Disk rfl 1 rfl rfl) rfl ?_)
        | (refine wv h (r_ldN h rfl K.u_p_disk_Disk rfl 2 rfl rfl) rfl ?_)
        | (refine wv h (r_ldN h rfl K.u_p_disk_Disk rfl 3 rfl rfl) rfl ?_)
        | (refine wv h (r_ldN h rfl K.u_p_disk_Disk rfl 4 rfl rfl) rfl ?_)
        | (refine wv h (r_ldN h rfl K.u_p_disk_Disk rfl 5 rfl rfl) rfl ?_)
        | (refine wv h (r_ldN h rfl K.u_p_disk_Disk rfl 6 rfl rfl) rfl ?_)
        | (refine wv h (r_ldC (o := 0) h rfl K.u_p_disk_Disk rfl 0 rfl) rfl ?_)
        | (refine wv h (r_ldC (o := 0) h rfl K.u_p_disk_Disk rfl 1 rfl) rfl ?_)
        | (refine wv h (r_ldC (o := 0) h rfl K.u_p_disk_Disk rfl 2 rfl) rfl ?_)
        | (refine wv h (r_ldC (o := 0) h rfl K.u_p_disk_Disk rfl 3 rfl) rfl ?_)
        | (refine wv h (r_ldC (o := 0) h rfl K.u_p_disk_Disk rfl 4 rfl) rfl ?_)
        | (refine wv h (r_ldC (o := 0) h rfl K.u_p_disk_Disk rfl 5 rfl) rfl ?_)
        | (refine wv h (r_ldC (o := 0) h rfl K.u_p_disk_Disk rfl 6 rfl) rfl ?_)
        | (refine wv h (r_load h rfl K.u_p_disk_Disk rfl 0 rfl rfl) rfl ?_)
        | (refine wv h (r_load h rfl K.u_p_disk_Disk rfl 1 rfl rfl) rfl ?_)
        | (refine wv h (r_load h rfl K.u_p_disk_Disk rfl 2 rfl rfl) rfl ?_)
        | (refine wv h (r_load h rfl K.u_p_disk_Disk rfl 3 rfl rfl) rfl ?_)
        | (refine wv h (r_load h rfl K.u_p_disk_Disk rfl 4 rfl rfl) rfl ?_)
        | (refine wv h (r_load h rfl K.u_p_disk_Disk rfl 5 rfl rfl) rfl ?_)
        | (refine wv h (r_load1 h rfl K.u_p_disk_Disk rfl (by assumption)) rfl ?_)
    clear h a w; intro a w h
    first
        | (refine wl rfl (op_call h rfl K.go_disk_Disk_Flush (disk_Flush s _ _ _ _ 0 rfl (by first | assumption | exact Dk.OkN.ok' (by decide)) (by first | assumption | omega) h.2) rfl ?_))
        | (refine wl rfl (op_call h rfl K.go_disk_Disk_Flush (disk_Flush s _ _ _ _ 1 rfl (by first | assumption | exact Dk.OkN.ok' (by decide)) (by first | assumption | omega) h.2) rfl ?_))
        | (refine wl rfl (op_call h rfl K.go_disk_Disk_Flush (disk_Flush s _ _ _ _ 2 rfl (by first | assumption | exact Dk.OkN.ok' (by decide)) (by first | assumption | omega) h.2) rfl ?_))
        | (refine wl rfl (op_call h rfl K.go_disk_Disk_Flush (disk_Flush s _ _ _ _ 3 rfl (by first | assumption | exact Dk.OkN.ok' (by decide)) (by first | assumption | omega) h.2) rfl ?_))
        | (refine wl rfl (op_call h rfl K.go_disk_Disk_Flush (disk_Flush s _ _ _ _ 4 rfl (by first | assumption | exact Dk.OkN.ok' (by decide)) (by first | assumption | omega) h.2) rfl ?_))
        | (refine wl rfl (op_call h rfl K.go_disk_Disk_Flush (disk_Flush s _ _ _ _ 5 rfl (by first | assumption | exact Dk.OkN.ok' (by decide)) (by first | assumption | omega) h.2) rfl ?_))
    clear h a w; intro x a w hx h
    (try simp only [List.set_cons_zero, List.set_cons_succ] at h)
    refine wv h (r_assign h rfl) rfl ?_
    clear h a w; intro a w h
    refine wnil (c_then ?_)
    refine c_ret ?_
    rw [hx4]
    exact ret1 h rfl rfl ⟨(), rfl, JnI_shut h.2, trivial⟩
end Go.Proofs.K
