/- The law's near, its parents' slice told outright. -/
import Derived.Test.YtfaegieaicigcaaDoorCommitc
set_option linter.unusedVariables false
set_option linter.unusedSimpArgs false
set_option maxRecDepth 10000
set_option maxHeartbeats 2000000
namespace Go.Proofs.K
open Go.Sl
attribute [local irreducible] Go.Sl.Own Go.Sl.Blk Go.Sl.Sep Go.Sl.Ex Go.Sl.Fact

def nearV1 (c : Cm) (pv : Value) : Value := if 2 < c.parents.length then subV 32 pv 0 2 else pv
def nearV (c : Cm) (pv : Value) : Value := if (c.parents.take 2).length = 2 ∧ ((c.parents.take 2).getD 0 default).val = ((c.parents.take 2).getD 1 default).val then subV 32 (nearV1 c pv) 0 1 else nearV1 c pv
theorem views_near1 {F : List HItem} {pv : Value} {c : Cm} (hp : Views F 32 pv c.parents.length (c.parents.flatMap cellsA)) : Views F 32 (nearV1 c pv) (c.parents.take 2).length ((c.parents.take 2).flatMap cellsA) := by
  unfold nearV1
  by_cases q : 2 < c.parents.length
  · rw [if_pos q]; exact views_take hp (by omega)
  · rw [if_neg q, List.take_of_length_le (by omega)]; exact hp
theorem views_near {F : List HItem} {pv : Value} {c : Cm} (hp : Views F 32 pv c.parents.length (c.parents.flatMap cellsA)) : Views F 32 (nearV c pv) (nearC c).parents.length ((nearC c).parents.flatMap cellsA) := by
  have h1 := views_near1 hp
  show Views F 32 (nearV c pv) (near2 (c.parents.take 2)).length ((near2 (c.parents.take 2)).flatMap cellsA)
  unfold nearV near2
  by_cases q : (c.parents.take 2).length = 2 ∧ ((c.parents.take 2).getD 0 default).val = ((c.parents.take 2).getD 1 default).val
  · rw [if_pos q, if_pos q]; exact views_take h1 (by omega)
  · rw [if_neg q, if_neg q]; exact h1

theorem law17_nearV (s w : World) (c : Cm) (pv : Value) (F : List HItem) (hp : Views F 32 pv c.parents.length (c.parents.flatMap cellsA)) (hs : Sat s w F) :
    Calls P n_law17_near #[.agg ⟨cmC c.chart pv (sv c.note)⟩] w (Ret s (fun _ : Unit => .agg ⟨cmC c.chart (nearV c pv) (sv (nearC c).note)⟩) (fun _ => F) (fun _ => True)) := by
  have hln := Views.len_le hp hs
  refine enter K.fn_law17_near rfl K.nt_law17_near rfl hs ?_
  clear hs w; intro a w h
  refine c_seq (c_region ?_)
  refine wl rfl (op_box h rfl rfl ?_)
  clear h a w; intro b1 a w h
  try simp only [Value.cells] at h
  refine wl rfl (op_alloc h K.z_api_Commit rfl ?_)
  clear h a w; intro b2 a w h
  replace h : St 39 s a w _ (Blk b2 (.cells ⟨cmC (BA.zero 32) (.slice none 0 0) (sv [])⟩ t_api_Commit) :: Blk b1 (.cells ⟨cmC c.chart pv (sv c.note)⟩ t_api_Commit) :: F) := h
  refine wnil (c_then ?_)
  refine c_meet h (X := Value) (fun _ => [(1, .pointer (some ⟨b1, 0, none⟩)), (2, .pointer (some ⟨b2, 0, none⟩))])
    (fun v => Blk b2 (.cells ⟨cmC (BA.zero 32) (.slice none 0 0) (sv [])⟩ t_api_Commit) :: Blk b1 (.cells ⟨cmC c.chart v (sv c.note)⟩ t_api_Commit) :: F) (fun v => v = nearV1 c pv) ?_ ?_
  ·
    refine c_seq (c_region ?_)
    refine wv h (r_fieldAddr h 32 rfl K.u_api_Commit rfl K.sz_S_api_Key rfl rfl) rfl ?_
    clear h a w; intro a w h
    first
      | (refine wv h (r_ldN h rfl K.u_S_api_Key rfl 0 rfl rfl) rfl ?_)
      | (refine wv h (r_ldN h rfl K.u_S_api_Key rfl 1 rfl rfl) rfl ?_)
      | (refine wv h (r_ldN h rfl K.u_S_api_Key rfl 2 rfl rfl) rfl ?_)
      | (refine wv h (r_ldN h rfl K.u_S_api_Key rfl 3 rfl rfl) rfl ?_)
      | (refine wv h (r_ldN h rfl K.u_S_api_Key rfl 4 rfl rfl) rfl ?_)
      | (refine wv h (r_ldN h rfl K.u_S_api_Key rfl 5 rfl rfl) rfl ?_)
      | (refine wv h (r_ldN h rfl K.u_S_api_Key rfl 6 rfl rfl) rfl ?_)
      | (refine wv h (r_ldC (o := 32) h rfl K.u_S_api_Key rfl 0 rfl) rfl ?_)
      | (refine wv h (r_ldC (o := 32) h rfl K.u_S_api_Key rfl 1 rfl) rfl ?_)
      | (refine wv h (r_ldC (o := 32) h rfl K.u_S_api_Key rfl 2 rfl) rfl ?_)
      | (refine wv h (r_ldC (o := 32) h rfl K.u_S_api_Key rfl 3 rfl) rfl ?_)
      | (refine wv h (r_ldC (o := 32) h rfl K.u_S_api_Key rfl 4 rfl) rfl ?_)
      | (refine wv h (r_ldC (o := 32) h rfl K.u_S_api_Key rfl 5 rfl) rfl ?_)
      | (refine wv h (r_ldC (o := 32) h rfl K.u_S_api_Key rfl 6 rfl) rfl ?_)
      | (refine wv h (r_load h rfl K.u_S_api_Key rfl 0 rfl rfl) rfl ?_)
      | (refine wv h (r_load h rfl K.u_S_api_Key rfl 1 rfl rfl) rfl ?_)
      | (refine wv h (r_load h rfl K.u_S_api_Key rfl 2 rfl rfl) rfl ?_)
      | (refine wv h (r_load h rfl K.u_S_api_Key rfl 3 rfl rfl) rfl ?_)
      | (refine wv h (r_load h rfl K.u_S_api_Key rfl 4 rfl rfl) rfl ?_)
      | (refine wv h (r_load h rfl K.u_S_api_Key rfl 5 rfl rfl) rfl ?_)
      | (refine wv h (r_load1 h rfl K.u_S_api_Key rfl (by assumption)) rfl ?_)
    clear h a w; intro a w h
    refine wv h (r_lenV h rfl K.u_S_api_Key (by first | exact Views.own 0 rfl | exact Views.own 1 rfl | exact Views.own 2 rfl | exact Views.own 3 rfl | exact Views.own 4 rfl | exact Views.own 5 rfl | assumption | exact Views.of_drop 1 (by assumption) | exact Views.of_drop 2 (by assumption) | exact Views.of_drop 3 (by assumption) | exact Views.of_drop 4 (by assumption) | exact Views.of_drop 5 (by assumption) | exact Views.of_drop 6 (by assumption) | exact Views.of_drop 7 (by assumption) | exact Views.of_drop 8 (by assumption) | exact Views.of_drop 9 (by assumption) | exact Views.of_drop 10 (by assumption) | exact Views.of_drop 11 (by assumption) | exact Views.of_drop 12 (by assumption))) rfl ?_
    clear h a w; intro a w h
    refine wv h (r_bin h rfl rfl (B.gtr_int)) rfl ?_
    clear h a w; intro a w h
    refine wnil (c_then ?_)
    first
      | refine c_condD h rfl (fun ht1 => ?_) (fun ht1 => ?_)
      | refine c_condP h rfl (by first | (simp only [Bool.and_eq_true, Bool.or_eq_true, Bool.not_eq_true', decide_eq_true_eq, decide_eq_false_iff_not, ne_eq, Bool.not_eq_eq_eq_not, Bool.not_true, beq_iff_eq, bne_iff_ne]; exact Iff.rfl) | exact Iff.rfl) (fun ht1 => ?_) (fun ht1 => ?_)
    ·
      have hv := views_take hp (k := 2) (by omega)
      have hvo := Views.oneCell hv (h.2.drop 2)
      as_aux_lemma =>
        refine c_region ?_
        refine wv h (r_fieldAddr h 32 rfl K.u_api_Commit rfl K.sz_S_api_Key rfl rfl) rfl ?_
        clear h a w; intro a w h
        first
          | (refine wv h (r_ldN h rfl K.u_S_api_Key rfl 0 rfl rfl) rfl ?_)
          | (refine wv h (r_ldN h rfl K.u_S_api_Key rfl 1 rfl rfl) rfl ?_)
          | (refine wv h (r_ldN h rfl K.u_S_api_Key rfl 2 rfl rfl) rfl ?_)
          | (refine wv h (r_ldN h rfl K.u_S_api_Key rfl 3 rfl rfl) rfl ?_)
          | (refine wv h (r_ldN h rfl K.u_S_api_Key rfl 4 rfl rfl) rfl ?_)
          | (refine wv h (r_ldN h rfl K.u_S_api_Key rfl 5 rfl rfl) rfl ?_)
          | (refine wv h (r_ldN h rfl K.u_S_api_Key rfl 6 rfl rfl) rfl ?_)
          | (refine wv h (r_ldC (o := 32) h rfl K.u_S_api_Key rfl 0 rfl) rfl ?_)
          | (refine wv h (r_ldC (o := 32) h rfl K.u_S_api_Key rfl 1 rfl) rfl ?_)
          | (refine wv h (r_ldC (o := 32) h rfl K.u_S_api_Key rfl 2 rfl) rfl ?_)
          | (refine wv h (r_ldC (o := 32) h rfl K.u_S_api_Key rfl 3 rfl) rfl ?_)
          | (refine wv h (r_ldC (o := 32) h rfl K.u_S_api_Key rfl 4 rfl) rfl ?_)
          | (refine wv h (r_ldC (o := 32) h rfl K.u_S_api_Key rfl 5 rfl) rfl ?_)
          | (refine wv h (r_ldC (o := 32) h rfl K.u_S_api_Key rfl 6 rfl) rfl ?_)
          | (refine wv h (r_load h rfl K.u_S_api_Key rfl 0 rfl rfl) rfl ?_)
          | (refine wv h (r_load h rfl K.u_S_api_Key rfl 1 rfl rfl) rfl ?_)
          | (refine wv h (r_load h rfl K.u_S_api_Key rfl 2 rfl rfl) rfl ?_)
          | (refine wv h (r_load h rfl K.u_S_api_Key rfl 3 rfl rfl) rfl ?_)
          | (refine wv h (r_load h rfl K.u_S_api_Key rfl 4 rfl rfl) rfl ?_)
          | (refine wv h (r_load h rfl K.u_S_api_Key rfl 5 rfl rfl) rfl ?_)
          | (refine wv h (r_load1 h rfl K.u_S_api_Key rfl (by assumption)) rfl ?_)
        clear h a w; intro a w h
        refine wv h (r_sliceV h rfl K.u_S_api_Key K.sz_api_Key (by first | exact Views.own 0 rfl | exact Views.own 1 rfl | exact Views.own 2 rfl | exact Views.own 3 rfl | exact Views.own 4 rfl | exact Views.own 5 rfl | assumption | exact Views.of_drop 1 (by assumption) | exact Views.of_drop 2 (by assumption) | exact Views.of_drop 3 (by assumption) | exact Views.of_drop 4 (by assumption) | exact Views.of_drop 5 (by assumption) | exact Views.of_drop 6 (by assumption) | exact Views.of_drop 7 (by assumption) | exact Views.of_drop 8 (by assumption) | exact Views.of_drop 9 (by assumption) | exact Views.of_drop 10 (by assumption) | exact Views.of_drop 11 (by assumption) | exact Views.of_drop 12 (by assumption)) _ _ Bnd.no (Bnd.of rfl (by omega)) (by first | omega | (simp only [List.length_cons, List.length_nil]; omega) | (simp; done) | (simp; omega)) (by first | omega | (simp only [List.length_cons, List.length_nil]; omega) | (simp; done) | (simp; omega))) rfl ?_
        clear h a w; intro a w h
        refine wv h (r_fieldAddr h 32 rfl K.u_api_Commit rfl K.sz_S_api_Key rfl rfl) rfl ?_
        clear h a w; intro a w h
        first
          | (refine wl rfl (op_storeN h rfl rfl K.sz_S_api_Key (by first | rfl | assumption | exact Views.oneCell (Views.own 0 rfl) h.2 | exact Views.oneCell (Views.own 1 rfl) h.2 | exact Views.oneCell (Views.own 2 rfl) h.2 | exact Views.oneCell (Views.own 3 rfl) h.2 | exact Views.oneCell (Views.own 4 rfl) h.2 | exact Views.oneCell (Views.own 5 rfl) h.2 | exact Views.oneCell (by assumption) h.2) 0 rfl rfl ?_))
          | (refine wl rfl (op_storeN h rfl rfl K.sz_S_api_Key (by first | rfl | assumption | exact Views.oneCell (Views.own 0 rfl) h.2 | exact Views.oneCell (Views.own 1 rfl) h.2 | exact Views.oneCell (Views.own 2 rfl) h.2 | exact Views.oneCell (Views.own 3 rfl) h.2 | exact Views.oneCell (Views.own 4 rfl) h.2 | exact Views.oneCell (Views.own 5 rfl) h.2 | exact Views.oneCell (by assumption) h.2) 1 rfl rfl ?_))
          | (refine wl rfl (op_storeN h rfl rfl K.sz_S_api_Key (by first | rfl | assumption | exact Views.oneCell (Views.own 0 rfl) h.2 | exact Views.oneCell (Views.own 1 rfl) h.2 | exact Views.oneCell (Views.own 2 rfl) h.2 | exact Views.oneCell (Views.own 3 rfl) h.2 | exact Views.oneCell (Views.own 4 rfl) h.2 | exact Views.oneCell (Views.own 5 rfl) h.2 | exact Views.oneCell (by assumption) h.2) 2 rfl rfl ?_))
          | (refine wl rfl (op_storeN h rfl rfl K.sz_S_api_Key (by first | rfl | assumption | exact Views.oneCell (Views.own 0 rfl) h.2 | exact Views.oneCell (Views.own 1 rfl) h.2 | exact Views.oneCell (Views.own 2 rfl) h.2 | exact Views.oneCell (Views.own 3 rfl) h.2 | exact Views.oneCell (Views.own 4 rfl) h.2 | exact Views.oneCell (Views.own 5 rfl) h.2 | exact Views.oneCell (by assumption) h.2) 3 rfl rfl ?_))
          | (refine wl rfl (op_storeN h rfl rfl K.sz_S_api_Key (by first | rfl | assumption | exact Views.oneCell (Views.own 0 rfl) h.2 | exact Views.oneCell (Views.own 1 rfl) h.2 | exact Views.oneCell (Views.own 2 rfl) h.2 | exact Views.oneCell (Views.own 3 rfl) h.2 | exact Views.oneCell (Views.own 4 rfl) h.2 | exact Views.oneCell (Views.own 5 rfl) h.2 | exact Views.oneCell (by assumption) h.2) 4 rfl rfl ?_))
          | (refine wl rfl (op_storeN h rfl rfl K.sz_S_api_Key (by first | rfl | assumption | exact Views.oneCell (Views.own 0 rfl) h.2 | exact Views.oneCell (Views.own 1 rfl) h.2 | exact Views.oneCell (Views.own 2 rfl) h.2 | exact Views.oneCell (Views.own 3 rfl) h.2 | exact Views.oneCell (Views.own 4 rfl) h.2 | exact Views.oneCell (Views.own 5 rfl) h.2 | exact Views.oneCell (by assumption) h.2) 5 rfl rfl ?_))
          | (refine wl rfl (op_storeN h rfl rfl K.sz_S_api_Key (by first | rfl | assumption | exact Views.oneCell (Views.own 0 rfl) h.2 | exact Views.oneCell (Views.own 1 rfl) h.2 | exact Views.oneCell (Views.own 2 rfl) h.2 | exact Views.oneCell (Views.own 3 rfl) h.2 | exact Views.oneCell (Views.own 4 rfl) h.2 | exact Views.oneCell (Views.own 5 rfl) h.2 | exact Views.oneCell (by assumption) h.2) 6 rfl rfl ?_))
          | (refine wl rfl (op_storeC (o := 32) h rfl rfl K.sz_S_api_Key (by first | rfl | assumption | exact Views.oneCell (Views.own 0 rfl) h.2 | exact Views.oneCell (Views.own 1 rfl) h.2 | exact Views.oneCell (Views.own 2 rfl) h.2 | exact Views.oneCell (Views.own 3 rfl) h.2 | exact Views.oneCell (Views.own 4 rfl) h.2 | exact Views.oneCell (Views.own 5 rfl) h.2 | exact Views.oneCell (by assumption) h.2) 0 rfl ?_))
          | (refine wl rfl (op_storeC (o := 32) h rfl rfl K.sz_S_api_Key (by first | rfl | assumption | exact Views.oneCell (Views.own 0 rfl) h.2 | exact Views.oneCell (Views.own 1 rfl) h.2 | exact Views.oneCell (Views.own 2 rfl) h.2 | exact Views.oneCell (Views.own 3 rfl) h.2 | exact Views.oneCell (Views.own 4 rfl) h.2 | exact Views.oneCell (Views.own 5 rfl) h.2 | exact Views.oneCell (by assumption) h.2) 1 rfl ?_))
          | (refine wl rfl (op_storeC (o := 32) h rfl rfl K.sz_S_api_Key (by first | rfl | assumption | exact Views.oneCell (Views.own 0 rfl) h.2 | exact Views.oneCell (Views.own 1 rfl) h.2 | exact Views.oneCell (Views.own 2 rfl) h.2 | exact Views.oneCell (Views.own 3 rfl) h.2 | exact Views.oneCell (Views.own 4 rfl) h.2 | exact Views.oneCell (Views.own 5 rfl) h.2 | exact Views.oneCell (by assumption) h.2) 2 rfl ?_))
          | (refine wl rfl (op_storeC (o := 32) h rfl rfl K.sz_S_api_Key (by first | rfl | assumption | exact Views.oneCell (Views.own 0 rfl) h.2 | exact Views.oneCell (Views.own 1 rfl) h.2 | exact Views.oneCell (Views.own 2 rfl) h.2 | exact Views.oneCell (Views.own 3 rfl) h.2 | exact Views.oneCell (Views.own 4 rfl) h.2 | exact Views.oneCell (Views.own 5 rfl) h.2 | exact Views.oneCell (by assumption) h.2) 3 rfl ?_))
          | (refine wl rfl (op_storeC (o := 32) h rfl rfl K.sz_S_api_Key (by first | rfl | assumption | exact Views.oneCell (Views.own 0 rfl) h.2 | exact Views.oneCell (Views.own 1 rfl) h.2 | exact Views.oneCell (Views.own 2 rfl) h.2 | exact Views.oneCell (Views.own 3 rfl) h.2 | exact Views.oneCell (Views.own 4 rfl) h.2 | exact Views.oneCell (Views.own 5 rfl) h.2 | exact Views.oneCell (by assumption) h.2) 4 rfl ?_))
          | (refine wl rfl (op_storeC (o := 32) h rfl rfl K.sz_S_api_Key (by first | rfl | assumption | exact Views.oneCell (Views.own 0 rfl) h.2 | exact Views.oneCell (Views.own 1 rfl) h.2 | exact Views.oneCell (Views.own 2 rfl) h.2 | exact Views.oneCell (Views.own 3 rfl) h.2 | exact Views.oneCell (Views.own 4 rfl) h.2 | exact Views.oneCell (Views.own 5 rfl) h.2 | exact Views.oneCell (by assumption) h.2) 5 rfl ?_))
          | (refine wl rfl (op_storeC (o := 32) h rfl rfl K.sz_S_api_Key (by first | rfl | assumption | exact Views.oneCell (Views.own 0 rfl) h.2 | exact Views.oneCell (Views.own 1 rfl) h.2 | exact Views.oneCell (Views.own 2 rfl) h.2 | exact Views.oneCell (Views.own 3 rfl) h.2 | exact Views.oneCell (Views.own 4 rfl) h.2 | exact Views.oneCell (Views.own 5 rfl) h.2 | exact Views.oneCell (by assumption) h.2) 6 rfl ?_))
        clear h a w; intro a w h
        (try simp only [List.set_cons_zero, List.set_cons_succ] at h)
        refine wnil ?_
        exact ⟨_, h.keep [1, 2], by rw [nearV1, if_pos (by omega)]⟩
    ·
      refine c_skip ?_
      exact ⟨pv, h.keep [1, 2], by rw [nearV1, if_neg (by omega)]⟩
  ·
    clear h a w; intro z a w hz h
    have hz1 : (c.parents.take 2).length ≤ 2 := by simp; omega
    have hnv : nearV c pv = if (c.parents.take 2).length = 2 ∧ ((c.parents.take 2).getD 0 default).val = ((c.parents.take 2).getD 1 default).val then subV 32 z 0 1 else z := by rw [hz]; rfl
    have hz2 := views_near1 hp
    rw [← hz] at hz2
    clear hz
    obtain ⟨p2, hp2⟩ : ∃ x, x = c.parents.take 2 := ⟨_, rfl⟩
    rw [← hp2] at hz1 hz2 hnv
    have hnt : (nearC c).note = (c.note.drop 0).take (min c.note.length 30 - 0) := by
      show c.note.take 30 = _
      by_cases q : c.note.length ≤ 30
      · rw [Nat.min_eq_left q, List.take_of_length_le q]; simp
      · rw [Nat.min_eq_right (by omega)]; simp
    rw [hnt]
    refine c_meet h (X := Value) (fun _ => [(1, .pointer (some ⟨b1, 0, none⟩)), (2, .pointer (some ⟨b2, 0, none⟩))])
      (fun v => Blk b2 (.cells ⟨cmC (BA.zero 32) (.slice none 0 0) (sv [])⟩ t_api_Commit) :: Blk b1 (.cells ⟨cmC c.chart v (sv c.note)⟩ t_api_Commit) :: F) (fun v => v = nearV c pv ∧ v.oneCell' = true) ?_ ?_
    ·
      refine c_seq (c_draw K.mixed (by kernel_rfl) h ?_)
      clear h a w; intro a hE
      first
        | (refine qv hE (fun w hw => r_fieldAddr ⟨hE, hw⟩ 32 rfl K.u_api_Commit rfl K.sz_S_api_Key rfl rfl) rfl ?_)
        | (refine qv hE (fun w hw => op_fieldC ⟨hE, hw⟩ 32 rfl K.u_api_Commit rfl K.sz_S_api_Key rfl rfl (by assumption) rfl) rfl ?_)
      clear hE a; intro a hE
      first
        | (refine qv hE (fun w hw => r_ldN ⟨hE, hw⟩ rfl K.u_S_api_Key rfl 0 rfl rfl) rfl ?_)
        | (refine qv hE (fun w hw => r_ldN ⟨hE, hw⟩ rfl K.u_S_api_Key rfl 1 rfl rfl) rfl ?_)
        | (refine qv hE (fun w hw => r_ldN ⟨hE, hw⟩ rfl K.u_S_api_Key rfl 2 rfl rfl) rfl ?_)
        | (refine qv hE (fun w hw => r_ldN ⟨hE, hw⟩ rfl K.u_S_api_Key rfl 3 rfl rfl) rfl ?_)
        | (refine qv hE (fun w hw => r_ldN ⟨hE, hw⟩ rfl K.u_S_api_Key rfl 4 rfl rfl) rfl ?_)
        | (refine qv hE (fun w hw => r_ldN ⟨hE, hw⟩ rfl K.u_S_api_Key rfl 5 rfl rfl) rfl ?_)
        | (refine qv hE (fun w hw => r_ldN ⟨hE, hw⟩ rfl K.u_S_api_Key rfl 6 rfl rfl) rfl ?_)
        | (refine qv hE (fun w hw => r_ldC (o := 32) ⟨hE, hw⟩ rfl K.u_S_api_Key rfl 0 rfl) rfl ?_)
        | (refine qv hE (fun w hw => r_ldC (o := 32) ⟨hE, hw⟩ rfl K.u_S_api_Key rfl 1 rfl) rfl ?_)
        | (refine qv hE (fun w hw => r_ldC (o := 32) ⟨hE, hw⟩ rfl K.u_S_api_Key rfl 2 rfl) rfl ?_)
        | (refine qv hE (fun w hw => r_ldC (o := 32) ⟨hE, hw⟩ rfl K.u_S_api_Key rfl 3 rfl) rfl ?_)
        | (refine qv hE (fun w hw => r_ldC (o := 32) ⟨hE, hw⟩ rfl K.u_S_api_Key rfl 4 rfl) rfl ?_)
        | (refine qv hE (fun w hw => r_ldC (o := 32) ⟨hE, hw⟩ rfl K.u_S_api_Key rfl 5 rfl) rfl ?_)
        | (refine qv hE (fun w hw => r_ldC (o := 32) ⟨hE, hw⟩ rfl K.u_S_api_Key rfl 6 rfl) rfl ?_)
        | (refine qv hE (fun w hw => r_load ⟨hE, hw⟩ rfl K.u_S_api_Key rfl 0 rfl rfl) rfl ?_)
        | (refine qv hE (fun w hw => r_load ⟨hE, hw⟩ rfl K.u_S_api_Key rfl 1 rfl rfl) rfl ?_)
        | (refine qv hE (fun w hw => r_load ⟨hE, hw⟩ rfl K.u_S_api_Key rfl 2 rfl rfl) rfl ?_)
        | (refine qv hE (fun w hw => r_load ⟨hE, hw⟩ rfl K.u_S_api_Key rfl 3 rfl rfl) rfl ?_)
        | (refine qv hE (fun w hw => r_load ⟨hE, hw⟩ rfl K.u_S_api_Key rfl 4 rfl rfl) rfl ?_)
        | (refine qv hE (fun w hw => r_load ⟨hE, hw⟩ rfl K.u_S_api_Key rfl 5 rfl rfl) rfl ?_)
        | (refine qv hE (fun w hw => r_load1 ⟨hE, hw⟩ rfl K.u_S_api_Key rfl (by assumption)) rfl ?_)
      clear hE a; intro a hE
      refine qv hE (fun w hw => r_lenV ⟨hE, hw⟩ rfl K.u_S_api_Key (by first | exact Views.own 0 rfl | exact Views.own 1 rfl | exact Views.own 2 rfl | exact Views.own 3 rfl | exact Views.own 4 rfl | exact Views.own 5 rfl | assumption | exact Views.of_drop 1 (by assumption) | exact Views.of_drop 2 (by assumption) | exact Views.of_drop 3 (by assumption) | exact Views.of_drop 4 (by assumption) | exact Views.of_drop 5 (by assumption) | exact Views.of_drop 6 (by assumption) | exact Views.of_drop 7 (by assumption) | exact Views.of_drop 8 (by assumption) | exact Views.of_drop 9 (by assumption) | exact Views.of_drop 10 (by assumption) | exact Views.of_drop 11 (by assumption) | exact Views.of_drop 12 (by assumption))) rfl ?_
      clear hE a; intro a hE
      refine qv hE (fun w hw => r_bin ⟨hE, hw⟩ rfl rfl (B.eql_int)) rfl ?_
      clear hE a; intro a hE
      refine qv hE (fun w hw => r_move ⟨hE, hw⟩ rfl) rfl ?_
      clear hE a; intro a hE
      refine qvG hE (by first | exact .t rfl | exact .f rfl | exact .gt rfl | exact .gf rfl) (fun hg w hw => by (try simp only [↓gval_on hg, ↓gval_and hg] at hE); (have hg2 := hg; (try simp only [Bool.and_eq_true, Bool.or_eq_true, Bool.not_eq_true', decide_eq_true_eq, decide_eq_false_iff_not] at hg2)); first | exact r_fieldAddr ⟨hE, hw⟩ 32 rfl K.u_api_Commit rfl K.sz_S_api_Key rfl rfl | exact op_fieldC ⟨hE, hw⟩ 32 rfl K.u_api_Commit rfl K.sz_S_api_Key rfl rfl (by assumption) rfl) rfl ?_
      clear hE a; intro a hE
      refine qvG hE (by first | exact .t rfl | exact .f rfl | exact .gt rfl | exact .gf rfl) (fun hg w hw => by (try simp only [↓gval_on hg, ↓gval_and hg] at hE); (have hg2 := hg; (try simp only [Bool.and_eq_true, Bool.or_eq_true, Bool.not_eq_true', decide_eq_true_eq, decide_eq_false_iff_not] at hg2)); first | exact r_ldN ⟨hE, hw⟩ rfl K.u_S_api_Key rfl 0 rfl rfl | exact r_ldN ⟨hE, hw⟩ rfl K.u_S_api_Key rfl 1 rfl rfl | exact r_ldN ⟨hE, hw⟩ rfl K.u_S_api_Key rfl 2 rfl rfl | exact r_ldN ⟨hE, hw⟩ rfl K.u_S_api_Key rfl 3 rfl rfl | exact r_ldN ⟨hE, hw⟩ rfl K.u_S_api_Key rfl 4 rfl rfl | exact r_ldN ⟨hE, hw⟩ rfl K.u_S_api_Key rfl 5 rfl rfl | exact r_ldN ⟨hE, hw⟩ rfl K.u_S_api_Key rfl 6 rfl rfl | exact r_ldC (o := 32) ⟨hE, hw⟩ rfl K.u_S_api_Key rfl 0 rfl | exact r_ldC (o := 32) ⟨hE, hw⟩ rfl K.u_S_api_Key rfl 1 rfl | exact r_ldC (o := 32) ⟨hE, hw⟩ rfl K.u_S_api_Key rfl 2 rfl | exact r_ldC (o := 32) ⟨hE, hw⟩ rfl K.u_S_api_Key rfl 3 rfl | exact r_ldC (o := 32) ⟨hE, hw⟩ rfl K.u_S_api_Key rfl 4 rfl | exact r_ldC (o := 32) ⟨hE, hw⟩ rfl K.u_S_api_Key rfl 5 rfl | exact r_ldC (o := 32) ⟨hE, hw⟩ rfl K.u_S_api_Key rfl 6 rfl | exact r_load ⟨hE, hw⟩ rfl K.u_S_api_Key rfl 0 rfl rfl | exact r_load ⟨hE, hw⟩ rfl K.u_S_api_Key rfl 1 rfl rfl | exact r_load ⟨hE, hw⟩ rfl K.u_S_api_Key rfl 2 rfl rfl | exact r_load ⟨hE, hw⟩ rfl K.u_S_api_Key rfl 3 rfl rfl | exact r_load ⟨hE, hw⟩ rfl K.u_S_api_Key rfl 4 rfl rfl | exact r_load ⟨hE, hw⟩ rfl K.u_S_api_Key rfl 5 rfl rfl | exact r_load1 ⟨hE, hw⟩ rfl K.u_S_api_Key rfl (by assumption)) rfl ?_
      clear hE a; intro a hE
      refine qvG hE (by first | exact .t rfl | exact .f rfl | exact .gt rfl | exact .gf rfl) (fun hg w hw => by (try simp only [↓gval_on hg, ↓gval_and hg] at hE); (have hg2 := hg; (try simp only [Bool.and_eq_true, Bool.or_eq_true, Bool.not_eq_true', decide_eq_true_eq, decide_eq_false_iff_not] at hg2)); first | exact r_elP ⟨hE, hw⟩ rfl rfl K.u_S_api_Key K.sz_api_Key (by first | exact Views.own 0 rfl | exact Views.own 1 rfl | exact Views.own 2 rfl | exact Views.own 3 rfl | exact Views.own 4 rfl | exact Views.own 5 rfl | assumption | exact Views.of_drop 1 (by assumption) | exact Views.of_drop 2 (by assumption) | exact Views.of_drop 3 (by assumption) | exact Views.of_drop 4 (by assumption) | exact Views.of_drop 5 (by assumption) | exact Views.of_drop 6 (by assumption) | exact Views.of_drop 7 (by assumption) | exact Views.of_drop 8 (by assumption) | exact Views.of_drop 9 (by assumption) | exact Views.of_drop 10 (by assumption) | exact Views.of_drop 11 (by assumption) | exact Views.of_drop 12 (by assumption)) (by first | omega | (simp; done)) (by first | omega | (simp only [List.length_cons, List.length_nil]; omega) | (simp; done) | (simp; omega))) rfl ?_
      clear hE a; intro a hE
      refine qvG hE (by first | exact .t rfl | exact .f rfl | exact .gt rfl | exact .gf rfl) (fun hg w hw => by (try simp only [↓gval_on hg, ↓gval_and hg] at hE); (have hg2 := hg; (try simp only [Bool.and_eq_true, Bool.or_eq_true, Bool.not_eq_true', decide_eq_true_eq, decide_eq_false_iff_not] at hg2)); first | exact r_elM ⟨hE, hw⟩ rfl K.u_api_Key rfl K.sz_api_Key rfl (by first | exact Views.own 0 rfl | exact Views.own 1 rfl | exact Views.own 2 rfl | exact Views.own 3 rfl | exact Views.own 4 rfl | exact Views.own 5 rfl | assumption | exact Views.of_drop 1 (by assumption) | exact Views.of_drop 2 (by assumption) | exact Views.of_drop 3 (by assumption) | exact Views.of_drop 4 (by assumption) | exact Views.of_drop 5 (by assumption) | exact Views.of_drop 6 (by assumption) | exact Views.of_drop 7 (by assumption) | exact Views.of_drop 8 (by assumption) | exact Views.of_drop 9 (by assumption) | exact Views.of_drop 10 (by assumption) | exact Views.of_drop 11 (by assumption) | exact Views.of_drop 12 (by assumption)) (by assumption) | exact r_elMd ⟨hE, hw⟩ rfl K.u_api_Key rfl K.sz_api_Key rfl (by first | exact Views.own 0 rfl | exact Views.own 1 rfl | exact Views.own 2 rfl | exact Views.own 3 rfl | exact Views.own 4 rfl | exact Views.own 5 rfl | assumption | exact Views.of_drop 1 (by assumption) | exact Views.of_drop 2 (by assumption) | exact Views.of_drop 3 (by assumption) | exact Views.of_drop 4 (by assumption) | exact Views.of_drop 5 (by assumption) | exact Views.of_drop 6 (by assumption) | exact Views.of_drop 7 (by assumption) | exact Views.of_drop 8 (by assumption) | exact Views.of_drop 9 (by assumption) | exact Views.of_drop 10 (by assumption) | exact Views.of_drop 11 (by assumption) | exact Views.of_drop 12 (by assumption)) (by first | omega | (simp only [List.length_cons, List.length_nil]; omega) | (simp; done) | (simp; omega))) rfl ?_
      clear hE a; intro a hE
      refine qvG hE (by first | exact .t rfl | exact .f rfl | exact .gt rfl | exact .gf rfl) (fun hg w hw => by (try simp only [↓gval_on hg, ↓gval_and hg] at hE); (have hg2 := hg; (try simp only [Bool.and_eq_true, Bool.or_eq_true, Bool.not_eq_true', decide_eq_true_eq, decide_eq_false_iff_not] at hg2)); first | exact r_fieldAddr ⟨hE, hw⟩ 32 rfl K.u_api_Commit rfl K.sz_S_api_Key rfl rfl | exact op_fieldC ⟨hE, hw⟩ 32 rfl K.u_api_Commit rfl K.sz_S_api_Key rfl rfl (by assumption) rfl) rfl ?_
      clear hE a; intro a hE
      refine qvG hE (by first | exact .t rfl | exact .f rfl | exact .gt rfl | exact .gf rfl) (fun hg w hw => by (try simp only [↓gval_on hg, ↓gval_and hg] at hE); (have hg2 := hg; (try simp only [Bool.and_eq_true, Bool.or_eq_true, Bool.not_eq_true', decide_eq_true_eq, decide_eq_false_iff_not] at hg2)); first | exact r_ldN ⟨hE, hw⟩ rfl K.u_S_api_Key rfl 0 rfl rfl | exact r_ldN ⟨hE, hw⟩ rfl K.u_S_api_Key rfl 1 rfl rfl | exact r_ldN ⟨hE, hw⟩ rfl K.u_S_api_Key rfl 2 rfl rfl | exact r_ldN ⟨hE, hw⟩ rfl K.u_S_api_Key rfl 3 rfl rfl | exact r_ldN ⟨hE, hw⟩ rfl K.u_S_api_Key rfl 4 rfl rfl | exact r_ldN ⟨hE, hw⟩ rfl K.u_S_api_Key rfl 5 rfl rfl | exact r_ldN ⟨hE, hw⟩ rfl K.u_S_api_Key rfl 6 rfl rfl | exact r_ldC (o := 32) ⟨hE, hw⟩ rfl K.u_S_api_Key rfl 0 rfl | exact r_ldC (o := 32) ⟨hE, hw⟩ rfl K.u_S_api_Key rfl 1 rfl | exact r_ldC (o := 32) ⟨hE, hw⟩ rfl K.u_S_api_Key rfl 2 rfl | exact r_ldC (o := 32) ⟨hE, hw⟩ rfl K.u_S_api_Key rfl 3 rfl | exact r_ldC (o := 32) ⟨hE, hw⟩ rfl K.u_S_api_Key rfl 4 rfl | exact r_ldC (o := 32) ⟨hE, hw⟩ rfl K.u_S_api_Key rfl 5 rfl | exact r_ldC (o := 32) ⟨hE, hw⟩ rfl K.u_S_api_Key rfl 6 rfl | exact r_load ⟨hE, hw⟩ rfl K.u_S_api_Key rfl 0 rfl rfl | exact r_load ⟨hE, hw⟩ rfl K.u_S_api_Key rfl 1 rfl rfl | exact r_load ⟨hE, hw⟩ rfl K.u_S_api_Key rfl 2 rfl rfl | exact r_load ⟨hE, hw⟩ rfl K.u_S_api_Key rfl 3 rfl rfl | exact r_load ⟨hE, hw⟩ rfl K.u_S_api_Key rfl 4 rfl rfl | exact r_load ⟨hE, hw⟩ rfl K.u_S_api_Key rfl 5 rfl rfl | exact r_load1 ⟨hE, hw⟩ rfl K.u_S_api_Key rfl (by assumption)) rfl ?_
      clear hE a; intro a hE
      refine qvG hE (by first | exact .t rfl | exact .f rfl | exact .gt rfl | exact .gf rfl) (fun hg w hw => by (try simp only [↓gval_on hg, ↓gval_and hg] at hE); (have hg2 := hg; (try simp only [Bool.and_eq_true, Bool.or_eq_true, Bool.not_eq_true', decide_eq_true_eq, decide_eq_false_iff_not] at hg2)); first | exact r_elP ⟨hE, hw⟩ rfl rfl K.u_S_api_Key K.sz_api_Key (by first | exact Views.own 0 rfl | exact Views.own 1 rfl | exact Views.own 2 rfl | exact Views.own 3 rfl | exact Views.own 4 rfl | exact Views.own 5 rfl | assumption | exact Views.of_drop 1 (by assumption) | exact Views.of_drop 2 (by assumption) | exact Views.of_drop 3 (by assumption) | exact Views.of_drop 4 (by assumption) | exact Views.of_drop 5 (by assumption) | exact Views.of_drop 6 (by assumption) | exact Views.of_drop 7 (by assumption) | exact Views.of_drop 8 (by assumption) | exact Views.of_drop 9 (by assumption) | exact Views.of_drop 10 (by assumption) | exact Views.of_drop 11 (by assumption) | exact Views.of_drop 12 (by assumption)) (by first | omega | (simp; done)) (by first | omega | (simp only [List.length_cons, List.length_nil]; omega) | (simp; done) | (simp; omega))) rfl ?_
      clear hE a; intro a hE
      refine qvG hE (by first | exact .t rfl | exact .f rfl | exact .gt rfl | exact .gf rfl) (fun hg w hw => by (try simp only [↓gval_on hg, ↓gval_and hg] at hE); (have hg2 := hg; (try simp only [Bool.and_eq_true, Bool.or_eq_true, Bool.not_eq_true', decide_eq_true_eq, decide_eq_false_iff_not] at hg2)); first | exact r_elM ⟨hE, hw⟩ rfl K.u_api_Key rfl K.sz_api_Key rfl (by first | exact Views.own 0 rfl | exact Views.own 1 rfl | exact Views.own 2 rfl | exact Views.own 3 rfl | exact Views.own 4 rfl | exact Views.own 5 rfl | assumption | exact Views.of_drop 1 (by assumption) | exact Views.of_drop 2 (by assumption) | exact Views.of_drop 3 (by assumption) | exact Views.of_drop 4 (by assumption) | exact Views.of_drop 5 (by assumption) | exact Views.of_drop 6 (by assumption) | exact Views.of_drop 7 (by assumption) | exact Views.of_drop 8 (by assumption) | exact Views.of_drop 9 (by assumption) | exact Views.of_drop 10 (by assumption) | exact Views.of_drop 11 (by assumption) | exact Views.of_drop 12 (by assumption)) (by assumption) | exact r_elMd ⟨hE, hw⟩ rfl K.u_api_Key rfl K.sz_api_Key rfl (by first | exact Views.own 0 rfl | exact Views.own 1 rfl | exact Views.own 2 rfl | exact Views.own 3 rfl | exact Views.own 4 rfl | exact Views.own 5 rfl | assumption | exact Views.of_drop 1 (by assumption) | exact Views.of_drop 2 (by assumption) | exact Views.of_drop 3 (by assumption) | exact Views.of_drop 4 (by assumption) | exact Views.of_drop 5 (by assumption) | exact Views.of_drop 6 (by assumption) | exact Views.of_drop 7 (by assumption) | exact Views.of_drop 8 (by assumption) | exact Views.of_drop 9 (by assumption) | exact Views.of_drop 10 (by assumption) | exact Views.of_drop 11 (by assumption) | exact Views.of_drop 12 (by assumption)) (by first | omega | (simp only [List.length_cons, List.length_nil]; omega) | (simp; done) | (simp; omega))) rfl ?_
      clear hE a; intro a hE
      refine qvG hE (by first | exact .t rfl | exact .f rfl | exact .gt rfl | exact .gf rfl) (fun hg w hw => by (try simp only [↓gval_on hg, ↓gval_and hg] at hE); (have hg2 := hg; (try simp only [Bool.and_eq_true, Bool.or_eq_true, Bool.not_eq_true', decide_eq_true_eq, decide_eq_false_iff_not] at hg2)); first | exact r_arreq ⟨hE, hw⟩ rfl rfl K.u_api_Key K.u_uint8 K.sz_uint8 (by kernel_rfl) (by first | rfl | assumption | (simp; done) | (simp; omega) | omega) (by first | rfl | assumption | (simp; done) | (simp; omega) | omega)) rfl ?_
      clear hE a; intro a hE
      first
        | (refine qv hE (fun w hw => r_pickA ⟨hE, hw⟩ rfl rfl rfl) rfl ?_)
        | (refine qv hE (fun w hw => r_pickO ⟨hE, hw⟩ rfl rfl rfl) rfl ?_)
        | (refine qv hE (fun w hw => r_pick_true ⟨hE, hw⟩ rfl rfl) rfl ?_)
        | (refine qv hE (fun w hw => r_pick_false ⟨hE, hw⟩ rfl rfl) rfl ?_)
        | (refine qv hE (fun w hw => r_pick ⟨hE, hw⟩ rfl rfl rfl) rfl ?_)
      clear hE a; intro a hE
      refine qnil hE ?_
      clear hE a; intro a w h
      refine c_then ?_
      first
        | refine c_condD h rfl (fun ht2 => ?_) (fun ht2 => ?_)
        | refine c_condP h rfl (by first | (simp only [Bool.and_eq_true, Bool.or_eq_true, Bool.not_eq_true', decide_eq_true_eq, decide_eq_false_iff_not, ne_eq, Bool.not_eq_eq_eq_not, Bool.not_true, beq_iff_eq, bne_iff_ne]; exact Iff.rfl) | exact Iff.rfl) (fun ht2 => ?_) (fun ht2 => ?_)
      ·
        have hv := views_take hz2 (k := 1) (by omega)
        have hvo := Views.oneCell hv (h.2.drop 2)
        as_aux_lemma =>
          refine c_region ?_
          refine wv h (r_fieldAddr h 32 rfl K.u_api_Commit rfl K.sz_S_api_Key rfl rfl) rfl ?_
          clear h a w; intro a w h
          first
            | (refine wv h (r_ldN h rfl K.u_S_api_Key rfl 0 rfl rfl) rfl ?_)
            | (refine wv h (r_ldN h rfl K.u_S_api_Key rfl 1 rfl rfl) rfl ?_)
            | (refine wv h (r_ldN h rfl K.u_S_api_Key rfl 2 rfl rfl) rfl ?_)
            | (refine wv h (r_ldN h rfl K.u_S_api_Key rfl 3 rfl rfl) rfl ?_)
            | (refine wv h (r_ldN h rfl K.u_S_api_Key rfl 4 rfl rfl) rfl ?_)
            | (refine wv h (r_ldN h rfl K.u_S_api_Key rfl 5 rfl rfl) rfl ?_)
            | (refine wv h (r_ldN h rfl K.u_S_api_Key rfl 6 rfl rfl) rfl ?_)
            | (refine wv h (r_ldC (o := 32) h rfl K.u_S_api_Key rfl 0 rfl) rfl ?_)
            | (refine wv h (r_ldC (o := 32) h rfl K.u_S_api_Key rfl 1 rfl) rfl ?_)
            | (refine wv h (r_ldC (o := 32) h rfl K.u_S_api_Key rfl 2 rfl) rfl ?_)
            | (refine wv h (r_ldC (o := 32) h rfl K.u_S_api_Key rfl 3 rfl) rfl ?_)
            | (refine wv h (r_ldC (o := 32) h rfl K.u_S_api_Key rfl 4 rfl) rfl ?_)
            | (refine wv h (r_ldC (o := 32) h rfl K.u_S_api_Key rfl 5 rfl) rfl ?_)
            | (refine wv h (r_ldC (o := 32) h rfl K.u_S_api_Key rfl 6 rfl) rfl ?_)
            | (refine wv h (r_load h rfl K.u_S_api_Key rfl 0 rfl rfl) rfl ?_)
            | (refine wv h (r_load h rfl K.u_S_api_Key rfl 1 rfl rfl) rfl ?_)
            | (refine wv h (r_load h rfl K.u_S_api_Key rfl 2 rfl rfl) rfl ?_)
            | (refine wv h (r_load h rfl K.u_S_api_Key rfl 3 rfl rfl) rfl ?_)
            | (refine wv h (r_load h rfl K.u_S_api_Key rfl 4 rfl rfl) rfl ?_)
            | (refine wv h (r_load h rfl K.u_S_api_Key rfl 5 rfl rfl) rfl ?_)
            | (refine wv h (r_load1 h rfl K.u_S_api_Key rfl (by assumption)) rfl ?_)
          clear h a w; intro a w h
          refine wv h (r_sliceV h rfl K.u_S_api_Key K.sz_api_Key (by first | exact Views.own 0 rfl | exact Views.own 1 rfl | exact Views.own 2 rfl | exact Views.own 3 rfl | exact Views.own 4 rfl | exact Views.own 5 rfl | assumption | exact Views.of_drop 1 (by assumption) | exact Views.of_drop 2 (by assumption) | exact Views.of_drop 3 (by assumption) | exact Views.of_drop 4 (by assumption) | exact Views.of_drop 5 (by assumption) | exact Views.of_drop 6 (by assumption) | exact Views.of_drop 7 (by assumption) | exact Views.of_drop 8 (by assumption) | exact Views.of_drop 9 (by assumption) | exact Views.of_drop 10 (by assumption) | exact Views.of_drop 11 (by assumption) | exact Views.of_drop 12 (by assumption)) _ _ Bnd.no (Bnd.of rfl (by omega)) (by first | omega | (simp only [List.length_cons, List.length_nil]; omega) | (simp; done) | (simp; omega)) (by first | omega | (simp only [List.length_cons, List.length_nil]; omega) | (simp; done) | (simp; omega))) rfl ?_
          clear h a w; intro a w h
          refine wv h (r_fieldAddr h 32 rfl K.u_api_Commit rfl K.sz_S_api_Key rfl rfl) rfl ?_
          clear h a w; intro a w h
          first
            | (refine wl rfl (op_storeN h rfl rfl K.sz_S_api_Key (by first | rfl | assumption | exact Views.oneCell (Views.own 0 rfl) h.2 | exact Views.oneCell (Views.own 1 rfl) h.2 | exact Views.oneCell (Views.own 2 rfl) h.2 | exact Views.oneCell (Views.own 3 rfl) h.2 | exact Views.oneCell (Views.own 4 rfl) h.2 | exact Views.oneCell (Views.own 5 rfl) h.2 | exact Views.oneCell (by assumption) h.2) 0 rfl rfl ?_))
            | (refine wl rfl (op_storeN h rfl rfl K.sz_S_api_Key (by first | rfl | assumption | exact Views.oneCell (Views.own 0 rfl) h.2 | exact Views.oneCell (Views.own 1 rfl) h.2 | exact Views.oneCell (Views.own 2 rfl) h.2 | exact Views.oneCell (Views.own 3 rfl) h.2 | exact Views.oneCell (Views.own 4 rfl) h.2 | exact Views.oneCell (Views.own 5 rfl) h.2 | exact Views.oneCell (by assumption) h.2) 1 rfl rfl ?_))
            | (refine wl rfl (op_storeN h rfl rfl K.sz_S_api_Key (by first | rfl | assumption | exact Views.oneCell (Views.own 0 rfl) h.2 | exact Views.oneCell (Views.own 1 rfl) h.2 | exact Views.oneCell (Views.own 2 rfl) h.2 | exact Views.oneCell (Views.own 3 rfl) h.2 | exact Views.oneCell (Views.own 4 rfl) h.2 | exact Views.oneCell (Views.own 5 rfl) h.2 | exact Views.oneCell (by assumption) h.2) 2 rfl rfl ?_))
            | (refine wl rfl (op_storeN h rfl rfl K.sz_S_api_Key (by first | rfl | assumption | exact Views.oneCell (Views.own 0 rfl) h.2 | exact Views.oneCell (Views.own 1 rfl) h.2 | exact Views.oneCell (Views.own 2 rfl) h.2 | exact Views.oneCell (Views.own 3 rfl) h.2 | exact Views.oneCell (Views.own 4 rfl) h.2 | exact Views.oneCell (Views.own 5 rfl) h.2 | exact Views.oneCell (by assumption) h.2) 3 rfl rfl ?_))
            | (refine wl rfl (op_storeN h rfl rfl K.sz_S_api_Key (by first | rfl | assumption | exact Views.oneCell (Views.own 0 rfl) h.2 | exact Views.oneCell (Views.own 1 rfl) h.2 | exact Views.oneCell (Views.own 2 rfl) h.2 | exact Views.oneCell (Views.own 3 rfl) h.2 | exact Views.oneCell (Views.own 4 rfl) h.2 | exact Views.oneCell (Views.own 5 rfl) h.2 | exact Views.oneCell (by assumption) h.2) 4 rfl rfl ?_))
            | (refine wl rfl (op_storeN h rfl rfl K.sz_S_api_Key (by first | rfl | assumption | exact Views.oneCell (Views.own 0 rfl) h.2 | exact Views.oneCell (Views.own 1 rfl) h.2 | exact Views.oneCell (Views.own 2 rfl) h.2 | exact Views.oneCell (Views.own 3 rfl) h.2 | exact Views.oneCell (Views.own 4 rfl) h.2 | exact Views.oneCell (Views.own 5 rfl) h.2 | exact Views.oneCell (by assumption) h.2) 5 rfl rfl ?_))
            | (refine wl rfl (op_storeN h rfl rfl K.sz_S_api_Key (by first | rfl | assumption | exact Views.oneCell (Views.own 0 rfl) h.2 | exact Views.oneCell (Views.own 1 rfl) h.2 | exact Views.oneCell (Views.own 2 rfl) h.2 | exact Views.oneCell (Views.own 3 rfl) h.2 | exact Views.oneCell (Views.own 4 rfl) h.2 | exact Views.oneCell (Views.own 5 rfl) h.2 | exact Views.oneCell (by assumption) h.2) 6 rfl rfl ?_))
            | (refine wl rfl (op_storeC (o := 32) h rfl rfl K.sz_S_api_Key (by first | rfl | assumption | exact Views.oneCell (Views.own 0 rfl) h.2 | exact Views.oneCell (Views.own 1 rfl) h.2 | exact Views.oneCell (Views.own 2 rfl) h.2 | exact Views.oneCell (Views.own 3 rfl) h.2 | exact Views.oneCell (Views.own 4 rfl) h.2 | exact Views.oneCell (Views.own 5 rfl) h.2 | exact Views.oneCell (by assumption) h.2) 0 rfl ?_))
            | (refine wl rfl (op_storeC (o := 32) h rfl rfl K.sz_S_api_Key (by first | rfl | assumption | exact Views.oneCell (Views.own 0 rfl) h.2 | exact Views.oneCell (Views.own 1 rfl) h.2 | exact Views.oneCell (Views.own 2 rfl) h.2 | exact Views.oneCell (Views.own 3 rfl) h.2 | exact Views.oneCell (Views.own 4 rfl) h.2 | exact Views.oneCell (Views.own 5 rfl) h.2 | exact Views.oneCell (by assumption) h.2) 1 rfl ?_))
            | (refine wl rfl (op_storeC (o := 32) h rfl rfl K.sz_S_api_Key (by first | rfl | assumption | exact Views.oneCell (Views.own 0 rfl) h.2 | exact Views.oneCell (Views.own 1 rfl) h.2 | exact Views.oneCell (Views.own 2 rfl) h.2 | exact Views.oneCell (Views.own 3 rfl) h.2 | exact Views.oneCell (Views.own 4 rfl) h.2 | exact Views.oneCell (Views.own 5 rfl) h.2 | exact Views.oneCell (by assumption) h.2) 2 rfl ?_))
            | (refine wl rfl (op_storeC (o := 32) h rfl rfl K.sz_S_api_Key (by first | rfl | assumption | exact Views.oneCell (Views.own 0 rfl) h.2 | exact Views.oneCell (Views.own 1 rfl) h.2 | exact Views.oneCell (Views.own 2 rfl) h.2 | exact Views.oneCell (Views.own 3 rfl) h.2 | exact Views.oneCell (Views.own 4 rfl) h.2 | exact Views.oneCell (Views.own 5 rfl) h.2 | exact Views.oneCell (by assumption) h.2) 3 rfl ?_))
            | (refine wl rfl (op_storeC (o := 32) h rfl rfl K.sz_S_api_Key (by first | rfl | assumption | exact Views.oneCell (Views.own 0 rfl) h.2 | exact Views.oneCell (Views.own 1 rfl) h.2 | exact Views.oneCell (Views.own 2 rfl) h.2 | exact Views.oneCell (Views.own 3 rfl) h.2 | exact Views.oneCell (Views.own 4 rfl) h.2 | exact Views.oneCell (Views.own 5 rfl) h.2 | exact Views.oneCell (by assumption) h.2) 4 rfl ?_))
            | (refine wl rfl (op_storeC (o := 32) h rfl rfl K.sz_S_api_Key (by first | rfl | assumption | exact Views.oneCell (Views.own 0 rfl) h.2 | exact Views.oneCell (Views.own 1 rfl) h.2 | exact Views.oneCell (Views.own 2 rfl) h.2 | exact Views.oneCell (Views.own 3 rfl) h.2 | exact Views.oneCell (Views.own 4 rfl) h.2 | exact Views.oneCell (Views.own 5 rfl) h.2 | exact Views.oneCell (by assumption) h.2) 5 rfl ?_))
            | (refine wl rfl (op_storeC (o := 32) h rfl rfl K.sz_S_api_Key (by first | rfl | assumption | exact Views.oneCell (Views.own 0 rfl) h.2 | exact Views.oneCell (Views.own 1 rfl) h.2 | exact Views.oneCell (Views.own 2 rfl) h.2 | exact Views.oneCell (Views.own 3 rfl) h.2 | exact Views.oneCell (Views.own 4 rfl) h.2 | exact Views.oneCell (Views.own 5 rfl) h.2 | exact Views.oneCell (by assumption) h.2) 6 rfl ?_))
          clear h a w; intro a w h
          (try simp only [List.set_cons_zero, List.set_cons_succ] at h)
          refine wnil ?_
          exact ⟨_, h.keep [1, 2], by rw [hnv, if_pos ⟨by omega, ht2.2⟩], hvo⟩
      ·
        refine c_skip ?_
        exact ⟨z, h.keep [1, 2], by rw [hnv, if_neg (fun q => ht2 ⟨by omega, q.2⟩)], Views.oneCell hz2 (h.2.drop 2)⟩
    ·
      clear h a w; intro z a w hz h
      obtain ⟨hz3, hz4⟩ := hz
      refine c_seq (c_region ?_)
      refine wv h (r_fieldAddr h 33 rfl K.u_api_Commit rfl K.sz_string rfl rfl) rfl ?_
      clear h a w; intro a w h
      first
        | (refine wv h (r_ldN h rfl K.u_string rfl 0 rfl rfl) rfl ?_)
        | (refine wv h (r_ldN h rfl K.u_string rfl 1 rfl rfl) rfl ?_)
        | (refine wv h (r_ldN h rfl K.u_string rfl 2 rfl rfl) rfl ?_)
        | (refine wv h (r_ldN h rfl K.u_string rfl 3 rfl rfl) rfl ?_)
        | (refine wv h (r_ldN h rfl K.u_string rfl 4 rfl rfl) rfl ?_)
        | (refine wv h (r_ldN h rfl K.u_string rfl 5 rfl rfl) rfl ?_)
        | (refine wv h (r_ldN h rfl K.u_string rfl 6 rfl rfl) rfl ?_)
        | (refine wv h (r_ldC (o := 33) h rfl K.u_string rfl 0 rfl) rfl ?_)
        | (refine wv h (r_ldC (o := 33) h rfl K.u_string rfl 1 rfl) rfl ?_)
        | (refine wv h (r_ldC (o := 33) h rfl K.u_string rfl 2 rfl) rfl ?_)
        | (refine wv h (r_ldC (o := 33) h rfl K.u_string rfl 3 rfl) rfl ?_)
        | (refine wv h (r_ldC (o := 33) h rfl K.u_string rfl 4 rfl) rfl ?_)
        | (refine wv h (r_ldC (o := 33) h rfl K.u_string rfl 5 rfl) rfl ?_)
        | (refine wv h (r_ldC (o := 33) h rfl K.u_string rfl 6 rfl) rfl ?_)
        | (refine wv h (r_load h rfl K.u_string rfl 0 rfl rfl) rfl ?_)
        | (refine wv h (r_load h rfl K.u_string rfl 1 rfl rfl) rfl ?_)
        | (refine wv h (r_load h rfl K.u_string rfl 2 rfl rfl) rfl ?_)
        | (refine wv h (r_load h rfl K.u_string rfl 3 rfl rfl) rfl ?_)
        | (refine wv h (r_load h rfl K.u_string rfl 4 rfl rfl) rfl ?_)
        | (refine wv h (r_load h rfl K.u_string rfl 5 rfl rfl) rfl ?_)
        | (refine wv h (r_load1 h rfl K.u_string rfl (by assumption)) rfl ?_)
      clear h a w; intro a w h
      refine wv h (r_fieldAddr h 33 rfl K.u_api_Commit rfl K.sz_string rfl rfl) rfl ?_
      clear h a w; intro a w h
      first
        | (refine wv h (r_ldN h rfl K.u_string rfl 0 rfl rfl) rfl ?_)
        | (refine wv h (r_ldN h rfl K.u_string rfl 1 rfl rfl) rfl ?_)
        | (refine wv h (r_ldN h rfl K.u_string rfl 2 rfl rfl) rfl ?_)
        | (refine wv h (r_ldN h rfl K.u_string rfl 3 rfl rfl) rfl ?_)
        | (refine wv h (r_ldN h rfl K.u_string rfl 4 rfl rfl) rfl ?_)
        | (refine wv h (r_ldN h rfl K.u_string rfl 5 rfl rfl) rfl ?_)
        | (refine wv h (r_ldN h rfl K.u_string rfl 6 rfl rfl) rfl ?_)
        | (refine wv h (r_ldC (o := 33) h rfl K.u_string rfl 0 rfl) rfl ?_)
        | (refine wv h (r_ldC (o := 33) h rfl K.u_string rfl 1 rfl) rfl ?_)
        | (refine wv h (r_ldC (o := 33) h rfl K.u_string rfl 2 rfl) rfl ?_)
        | (refine wv h (r_ldC (o := 33) h rfl K.u_string rfl 3 rfl) rfl ?_)
        | (refine wv h (r_ldC (o := 33) h rfl K.u_string rfl 4 rfl) rfl ?_)
        | (refine wv h (r_ldC (o := 33) h rfl K.u_string rfl 5 rfl) rfl ?_)
        | (refine wv h (r_ldC (o := 33) h rfl K.u_string rfl 6 rfl) rfl ?_)
        | (refine wv h (r_load h rfl K.u_string rfl 0 rfl rfl) rfl ?_)
        | (refine wv h (r_load h rfl K.u_string rfl 1 rfl rfl) rfl ?_)
        | (refine wv h (r_load h rfl K.u_string rfl 2 rfl rfl) rfl ?_)
        | (refine wv h (r_load h rfl K.u_string rfl 3 rfl rfl) rfl ?_)
        | (refine wv h (r_load h rfl K.u_string rfl 4 rfl rfl) rfl ?_)
        | (refine wv h (r_load h rfl K.u_string rfl 5 rfl rfl) rfl ?_)
        | (refine wv h (r_load1 h rfl K.u_string rfl (by assumption)) rfl ?_)
      clear h a w; intro a w h
      refine wv h (r_lenT h rfl K.u_string) rfl ?_
      clear h a w; intro a w h
      refine wv h (r_min2 h rfl rfl) rfl ?_
      clear h a w; intro a w h
      refine wv h (r_sliceT h rfl K.u_string _ _ Bnd.no (Bnd.of rfl (by omega)) (by first | omega | (simp only [List.length_cons, List.length_nil]; omega) | (simp; done) | (simp; omega)) (by first | omega | (simp only [List.length_cons, List.length_nil]; omega) | (simp; done) | (simp; omega))) rfl ?_
      clear h a w; intro a w h
      refine wv h (r_fieldAddr h 33 rfl K.u_api_Commit rfl K.sz_string rfl rfl) rfl ?_
      clear h a w; intro a w h
      first
        | (refine wl rfl (op_storeN h rfl rfl K.sz_string (by first | rfl | assumption | exact Views.oneCell (Views.own 0 rfl) h.2 | exact Views.oneCell (Views.own 1 rfl) h.2 | exact Views.oneCell (Views.own 2 rfl) h.2 | exact Views.oneCell (Views.own 3 rfl) h.2 | exact Views.oneCell (Views.own 4 rfl) h.2 | exact Views.oneCell (Views.own 5 rfl) h.2 | exact Views.oneCell (by assumption) h.2) 0 rfl rfl ?_))
        | (refine wl rfl (op_storeN h rfl rfl K.sz_string (by first | rfl | assumption | exact Views.oneCell (Views.own 0 rfl) h.2 | exact Views.oneCell (Views.own 1 rfl) h.2 | exact Views.oneCell (Views.own 2 rfl) h.2 | exact Views.oneCell (Views.own 3 rfl) h.2 | exact Views.oneCell (Views.own 4 rfl) h.2 | exact Views.oneCell (Views.own 5 rfl) h.2 | exact Views.oneCell (by assumption) h.2) 1 rfl rfl ?_))
        | (refine wl rfl (op_storeN h rfl rfl K.sz_string (by first | rfl | assumption | exact Views.oneCell (Views.own 0 rfl) h.2 | exact Views.oneCell (Views.own 1 rfl) h.2 | exact Views.oneCell (Views.own 2 rfl) h.2 | exact Views.oneCell (Views.own 3 rfl) h.2 | exact Views.oneCell (Views.own 4 rfl) h.2 | exact Views.oneCell (Views.own 5 rfl) h.2 | exact Views.oneCell (by assumption) h.2) 2 rfl rfl ?_))
        | (refine wl rfl (op_storeN h rfl rfl K.sz_string (by first | rfl | assumption | exact Views.oneCell (Views.own 0 rfl) h.2 | exact Views.oneCell (Views.own 1 rfl) h.2 | exact Views.oneCell (Views.own 2 rfl) h.2 | exact Views.oneCell (Views.own 3 rfl) h.2 | exact Views.oneCell (Views.own 4 rfl) h.2 | exact Views.oneCell (Views.own 5 rfl) h.2 | exact Views.oneCell (by assumption) h.2) 3 rfl rfl ?_))
        | (refine wl rfl (op_storeN h rfl rfl K.sz_string (by first | rfl | assumption | exact Views.oneCell (Views.own 0 rfl) h.2 | exact Views.oneCell (Views.own 1 rfl) h.2 | exact Views.oneCell (Views.own 2 rfl) h.2 | exact Views.oneCell (Views.own 3 rfl) h.2 | exact Views.oneCell (Views.own 4 rfl) h.2 | exact Views.oneCell (Views.own 5 rfl) h.2 | exact Views.oneCell (by assumption) h.2) 4 rfl rfl ?_))
        | (refine wl rfl (op_storeN h rfl rfl K.sz_string (by first | rfl | assumption | exact Views.oneCell (Views.own 0 rfl) h.2 | exact Views.oneCell (Views.own 1 rfl) h.2 | exact Views.oneCell (Views.own 2 rfl) h.2 | exact Views.oneCell (Views.own 3 rfl) h.2 | exact Views.oneCell (Views.own 4 rfl) h.2 | exact Views.oneCell (Views.own 5 rfl) h.2 | exact Views.oneCell (by assumption) h.2) 5 rfl rfl ?_))
        | (refine wl rfl (op_storeN h rfl rfl K.sz_string (by first | rfl | assumption | exact Views.oneCell (Views.own 0 rfl) h.2 | exact Views.oneCell (Views.own 1 rfl) h.2 | exact Views.oneCell (Views.own 2 rfl) h.2 | exact Views.oneCell (Views.own 3 rfl) h.2 | exact Views.oneCell (Views.own 4 rfl) h.2 | exact Views.oneCell (Views.own 5 rfl) h.2 | exact Views.oneCell (by assumption) h.2) 6 rfl rfl ?_))
        | (refine wl rfl (op_storeC (o := 33) h rfl rfl K.sz_string (by first | rfl | assumption | exact Views.oneCell (Views.own 0 rfl) h.2 | exact Views.oneCell (Views.own 1 rfl) h.2 | exact Views.oneCell (Views.own 2 rfl) h.2 | exact Views.oneCell (Views.own 3 rfl) h.2 | exact Views.oneCell (Views.own 4 rfl) h.2 | exact Views.oneCell (Views.own 5 rfl) h.2 | exact Views.oneCell (by assumption) h.2) 0 rfl ?_))
        | (refine wl rfl (op_storeC (o := 33) h rfl rfl K.sz_string (by first | rfl | assumption | exact Views.oneCell (Views.own 0 rfl) h.2 | exact Views.oneCell (Views.own 1 rfl) h.2 | exact Views.oneCell (Views.own 2 rfl) h.2 | exact Views.oneCell (Views.own 3 rfl) h.2 | exact Views.oneCell (Views.own 4 rfl) h.2 | exact Views.oneCell (Views.own 5 rfl) h.2 | exact Views.oneCell (by assumption) h.2) 1 rfl ?_))
        | (refine wl rfl (op_storeC (o := 33) h rfl rfl K.sz_string (by first | rfl | assumption | exact Views.oneCell (Views.own 0 rfl) h.2 | exact Views.oneCell (Views.own 1 rfl) h.2 | exact Views.oneCell (Views.own 2 rfl) h.2 | exact Views.oneCell (Views.own 3 rfl) h.2 | exact Views.oneCell (Views.own 4 rfl) h.2 | exact Views.oneCell (Views.own 5 rfl) h.2 | exact Views.oneCell (by assumption) h.2) 2 rfl ?_))
        | (refine wl rfl (op_storeC (o := 33) h rfl rfl K.sz_string (by first | rfl | assumption | exact Views.oneCell (Views.own 0 rfl) h.2 | exact Views.oneCell (Views.own 1 rfl) h.2 | exact Views.oneCell (Views.own 2 rfl) h.2 | exact Views.oneCell (Views.own 3 rfl) h.2 | exact Views.oneCell (Views.own 4 rfl) h.2 | exact Views.oneCell (Views.own 5 rfl) h.2 | exact Views.oneCell (by assumption) h.2) 3 rfl ?_))
        | (refine wl rfl (op_storeC (o := 33) h rfl rfl K.sz_string (by first | rfl | assumption | exact Views.oneCell (Views.own 0 rfl) h.2 | exact Views.oneCell (Views.own 1 rfl) h.2 | exact Views.oneCell (Views.own 2 rfl) h.2 | exact Views.oneCell (Views.own 3 rfl) h.2 | exact Views.oneCell (Views.own 4 rfl) h.2 | exact Views.oneCell (Views.own 5 rfl) h.2 | exact Views.oneCell (by assumption) h.2) 4 rfl ?_))
        | (refine wl rfl (op_storeC (o := 33) h rfl rfl K.sz_string (by first | rfl | assumption | exact Views.oneCell (Views.own 0 rfl) h.2 | exact Views.oneCell (Views.own 1 rfl) h.2 | exact Views.oneCell (Views.own 2 rfl) h.2 | exact Views.oneCell (Views.own 3 rfl) h.2 | exact Views.oneCell (Views.own 4 rfl) h.2 | exact Views.oneCell (Views.own 5 rfl) h.2 | exact Views.oneCell (by assumption) h.2) 5 rfl ?_))
        | (refine wl rfl (op_storeC (o := 33) h rfl rfl K.sz_string (by first | rfl | assumption | exact Views.oneCell (Views.own 0 rfl) h.2 | exact Views.oneCell (Views.own 1 rfl) h.2 | exact Views.oneCell (Views.own 2 rfl) h.2 | exact Views.oneCell (Views.own 3 rfl) h.2 | exact Views.oneCell (Views.own 4 rfl) h.2 | exact Views.oneCell (Views.own 5 rfl) h.2 | exact Views.oneCell (by assumption) h.2) 6 rfl ?_))
      clear h a w; intro a w h
      (try simp only [List.set_cons_zero, List.set_cons_succ] at h)
      refine wnil (c_then ?_)
      refine c_seq (c_region ?_)
      first
        | (refine wv h (r_ldA h rfl K.u_api_Commit rfl K.sz_api_Commit 0 rfl (by first | exact Row.len _ | rfl | assumption | (simp; done) | (simp; omega) | omega)) rfl ?_)
        | (refine wv h (r_ldA h rfl K.u_api_Commit rfl K.sz_api_Commit 1 rfl (by first | exact Row.len _ | rfl | assumption | (simp; done) | (simp; omega) | omega)) rfl ?_)
        | (refine wv h (r_ldA h rfl K.u_api_Commit rfl K.sz_api_Commit 2 rfl (by first | exact Row.len _ | rfl | assumption | (simp; done) | (simp; omega) | omega)) rfl ?_)
        | (refine wv h (r_ldA h rfl K.u_api_Commit rfl K.sz_api_Commit 3 rfl (by first | exact Row.len _ | rfl | assumption | (simp; done) | (simp; omega) | omega)) rfl ?_)
        | (refine wv h (r_ldA h rfl K.u_api_Commit rfl K.sz_api_Commit 4 rfl (by first | exact Row.len _ | rfl | assumption | (simp; done) | (simp; omega) | omega)) rfl ?_)
        | (refine wv h (r_ldA h rfl K.u_api_Commit rfl K.sz_api_Commit 5 rfl (by first | exact Row.len _ | rfl | assumption | (simp; done) | (simp; omega) | omega)) rfl ?_)
        | (refine wv h (r_loadCA h rfl K.u_api_Commit rfl K.sz_api_Commit (by assumption) (by first | rfl | assumption | (simp; done) | (simp; omega) | omega)) rfl ?_)
      clear h a w; intro a w h
      refine wl rfl (op_stA h rfl rfl K.sz_api_Commit (cmC_len _ _ _) (cmC_one hz4 rfl) 0 rfl rfl ?_)
      clear h a w; intro a w h
      refine wnil (c_then ?_)
      refine c_ret ?_
      exact retc h rfl rfl K.u_api_Commit rfl K.sz_api_Commit 0 rfl (by show (cmC _ _ _).length = 34; simp) ⟨(), by rw [← hz3], h.2.drop 2, trivial⟩
end Go.Proofs.K
