/- The contracts of package slices that package graph uses: IndexFunc, DeleteFunc; Base's closure. -/
import Derived.Test.YtnplbpmdehcknaaGraphe
import Derived.Test.YtnplbpmdehcknaaKeySet
set_option linter.unusedVariables false
set_option linter.unusedSimpArgs false
set_option maxRecDepth 10000
set_option maxHeartbeats 2000000
namespace Go.Proofs.K
open Go.Sl
attribute [local irreducible] Go.Sl.Own Go.Sl.Blk Go.Sl.Sep Go.Sl.Ex Go.Sl.Fact

theorem g_Base1 (s w : World) (bc : Nat) (v : Value) (l : List Key) (k : Key) (F : List HItem) (hc : CellsAt F ⟨bc, 0, none⟩ [v]) (hv : Views F 32 v l.length (l.flatMap cellsA)) (hl : l.length ≤ 4000000) (hs : Sat s w F) :
    Calls P n_graph_Base_1 #[keyV k, gp bc] w (Ret s (fun _ : Unit => .bool (!decide (k ∈ l))) (fun _ => F) (fun _ => True)) := by
  refine enter K.fn_graph_Base_1 rfl K.nt_graph_Base_1 rfl hs ?_
  clear hs w; intro a w h
  unfold keyV at h
  refine c_seq (c_region ?_)
  refine wl rfl (op_box h rfl rfl ?_)
  clear h a w; intro b2 a w h
  try simp only [Value.cells] at h
  refine wv h (r_assign h rfl) rfl ?_
  clear h a w; intro a w h
  refine wnil (c_then ?_)
  have hc2 := hc.cons (Blk b2 (.cells ⟨cellsA k⟩ t_api_Key))
  refine c_seq (c_region ?_)
  first
    | (refine wv h (r_ldN h rfl K.u_S_api_Key rfl 0 rfl rfl) rfl ?_)
    | (refine wv h (r_ldN h rfl K.u_S_api_Key rfl 1 rfl rfl) rfl ?_)
    | (refine wv h (r_ldN h rfl K.u_S_api_Key rfl 2 rfl rfl) rfl ?_)
    | (refine wv h (r_ldN h rfl K.u_S_api_Key rfl 3 rfl rfl) rfl ?_)
    | (refine wv h (r_ldN h rfl K.u_S_api_Key rfl 4 rfl rfl) rfl ?_)
    | (refine wv h (r_ldN h rfl K.u_S_api_Key rfl 5 rfl rfl) rfl ?_)
    | (refine wv h (r_ldN h rfl K.u_S_api_Key rfl 6 rfl rfl) rfl ?_)
    | (refine wv h (r_load h rfl K.u_S_api_Key rfl 0 rfl rfl) rfl ?_)
    | (refine wv h (r_load h rfl K.u_S_api_Key rfl 1 rfl rfl) rfl ?_)
    | (refine wv h (r_load h rfl K.u_S_api_Key rfl 2 rfl rfl) rfl ?_)
    | (refine wv h (r_load h rfl K.u_S_api_Key rfl 3 rfl rfl) rfl ?_)
    | (refine wv h (r_load h rfl K.u_S_api_Key rfl 4 rfl rfl) rfl ?_)
    | (refine wv h (r_load h rfl K.u_S_api_Key rfl 5 rfl rfl) rfl ?_)
    | (refine wv h (r_load1 h rfl K.u_S_api_Key rfl (by assumption)) rfl ?_)
  clear h a w; intro a w h
  first
    | (refine wv h (r_loadA8 h rfl K.u_api_Key rfl K.sz_api_Key 0 rfl (by first | rfl | assumption | (simp; done) | (simp; omega) | omega)) rfl ?_)
    | (refine wv h (r_loadA8 h rfl K.u_api_Key rfl K.sz_api_Key 1 rfl (by first | rfl | assumption | (simp; done) | (simp; omega) | omega)) rfl ?_)
    | (refine wv h (r_loadA8 h rfl K.u_api_Key rfl K.sz_api_Key 2 rfl (by first | rfl | assumption | (simp; done) | (simp; omega) | omega)) rfl ?_)
    | (refine wv h (r_loadA8 h rfl K.u_api_Key rfl K.sz_api_Key 3 rfl (by first | rfl | assumption | (simp; done) | (simp; omega) | omega)) rfl ?_)
    | (refine wv h (r_loadA8 h rfl K.u_api_Key rfl K.sz_api_Key 4 rfl (by first | rfl | assumption | (simp; done) | (simp; omega) | omega)) rfl ?_)
    | (refine wv h (r_loadA8 h rfl K.u_api_Key rfl K.sz_api_Key 5 rfl (by first | rfl | assumption | (simp; done) | (simp; omega) | omega)) rfl ?_)
    | (refine wv h (r_loadCA h rfl K.u_api_Key rfl K.sz_api_Key (by assumption) (by first | rfl | assumption | (simp; done) | (simp; omega) | omega)) rfl ?_)
  clear h a w; intro a w h
  refine wl rfl (op_call h rfl K.go_slices_Contains_api_Key_api_Key (sl_Contains s _ v l k _ (hv.cons _) hl h.2) rfl ?_)
  clear h a w; intro x a w hx h
  (try simp only [List.set_cons_zero, List.set_cons_succ] at h)
  refine wv h (r_not h rfl) rfl ?_
  clear h a w; intro a w h
  refine wv h (r_assign h rfl) rfl ?_
  clear h a w; intro a w h
  refine wnil (c_then ?_)
  refine c_ret ?_
  exact ret1 h rfl rfl ⟨(), rfl, h.2.drop 1, trivial⟩

theorem sl_IndexFunc (s w : World) (v : Value) (l : List Key) (gf : FuncId) (cs : Array Value) (p : Key → Bool) (F : List HItem) (hgo : isGo P gf = true)
    (hcall : ∀ w k, Sat s w F → Calls P gf (#[] ++ [keyV k].toArray ++ cs) w (Ret s (fun _ : Unit => .bool (p k)) (fun _ => F) (fun _ => True)))
    (hv : Views F 32 v l.length (l.flatMap cellsA)) (hl : l.length ≤ 4000000) (hs : Sat s w F) :
    Calls P n_slices_IndexFunc_api_Key_api_Key #[v, .func (.func gf) #[] cs] w (Ret s (fun _ : Unit => .int .i64 (fnIx p l 0)) (fun _ => F) (fun _ => True)) := by
  refine enter K.fn_slices_IndexFunc_api_Key_api_Key rfl K.nt_slices_IndexFunc_api_Key_api_Key rfl hs ?_
  clear hs w; intro a w h
  refine c_seq (c_region ?_)
  refine wv h (r_assign h rfl) rfl ?_
  clear h a w; intro a w h
  refine wnil (c_then ?_)
  refine c_seq ?_
  refine c_seq (c_region ?_)
  refine wv h (r_move h rfl) rfl ?_
  clear h a w; intro a w h
  refine wv h (r_lenV h rfl K.u_S_api_Key (by first | exact Views.own 0 rfl | exact Views.own 1 rfl | exact Views.own 2 rfl | exact Views.own 3 rfl | exact Views.own 4 rfl | exact Views.own 5 rfl | assumption | exact Views.of_drop 1 (by assumption) | exact Views.of_drop 2 (by assumption) | exact Views.of_drop 3 (by assumption) | exact Views.of_drop 4 (by assumption) | exact Views.of_drop 5 (by assumption) | exact Views.of_drop 6 (by assumption) | exact Views.of_drop 7 (by assumption) | exact Views.of_drop 8 (by assumption) | exact Views.of_drop 9 (by assumption) | exact Views.of_drop 10 (by assumption) | exact Views.of_drop 11 (by assumption) | exact Views.of_drop 12 (by assumption))) rfl ?_
  clear h a w; intro a w h
  refine wv h (r_move h rfl) rfl ?_
  clear h a w; intro a w h
  refine wnil (c_then ?_)
  refine c_block ?_
  refine c_loop (X := Nat) (fun i => [(0, v), (1, .func (.func gf) #[] cs), (7, .int .i64 (l.length : Int)), (8, .int .i64 (i : Int))]) (fun _ => F) (fun i => i ≤ l.length ∧ fnIx p l 0 = fnIx p (l.drop i) i) (fun i => l.length - i) 0 (h.keep [0, 1, 7, 8]) ⟨Nat.zero_le _, rfl⟩ ?_
  clear h a w; intro x a w hx h
  obtain ⟨h1, h2⟩ := hx
  as_aux_lemma =>
   refine c_seq (c_region ?_)
   refine wv h (r_bin h rfl rfl (B.lss_int)) rfl ?_
   clear h a w; intro a w h
   refine wnil (c_then ?_)
   refine c_seq ?_
   first
    | refine c_condD h rfl (fun ht1 => ?_) (fun ht1 => ?_)
    | refine c_condP h rfl (by first | (simp only [Bool.and_eq_true, Bool.or_eq_true, Bool.not_eq_true', decide_eq_true_eq, decide_eq_false_iff_not, ne_eq, Bool.not_eq_eq_eq_not, Bool.not_true, beq_iff_eq, bne_iff_ne]; exact Iff.rfl) | exact Iff.rfl) (fun ht1 => ?_) (fun ht1 => ?_)
   ·
    have hlt : x < l.length := by omega
    obtain ⟨y, hy⟩ : ∃ y, l[x]? = some y := ⟨_, List.getElem?_eq_getElem hlt⟩
    rw [fnIx_step p l hy] at h2
    refine c_skip ?_
    refine c_then ?_
    refine c_seq ?_
    refine c_block ?_
    refine c_seq (c_region ?_)
    refine wv h (r_move h rfl) rfl ?_
    clear h a w; intro a w h
    refine wv h (r_assign h rfl) rfl ?_
    clear h a w; intro a w h
    refine wnil (c_then ?_)
    refine c_seq (c_region ?_)
    refine wv h (r_move h rfl) rfl ?_
    clear h a w; intro a w h
    refine wv h (r_move h rfl) rfl ?_
    clear h a w; intro a w h
    refine wv h (r_move h rfl) rfl ?_
    clear h a w; intro a w h
    refine wv h (r_elP h rfl rfl K.u_S_api_Key K.sz_api_Key (by first | exact Views.own 0 rfl | exact Views.own 1 rfl | exact Views.own 2 rfl | exact Views.own 3 rfl | exact Views.own 4 rfl | exact Views.own 5 rfl | assumption | exact Views.of_drop 1 (by assumption) | exact Views.of_drop 2 (by assumption) | exact Views.of_drop 3 (by assumption) | exact Views.of_drop 4 (by assumption) | exact Views.of_drop 5 (by assumption) | exact Views.of_drop 6 (by assumption) | exact Views.of_drop 7 (by assumption) | exact Views.of_drop 8 (by assumption) | exact Views.of_drop 9 (by assumption) | exact Views.of_drop 10 (by assumption) | exact Views.of_drop 11 (by assumption) | exact Views.of_drop 12 (by assumption)) (by first | omega | (simp; done)) (by first | omega | (simp only [List.length_cons, List.length_nil]; omega) | (simp; done) | (simp; omega))) rfl ?_
    clear h a w; intro a w h
    refine wv h (r_elM (cells := cellsA) h rfl K.u_api_Key rfl K.sz_api_Key rfl hv hy) rfl ?_
    clear h a w; intro a w h
    refine wl rfl (op_callV (vs := [keyV y]) h rfl rfl hgo (hcall _ y h.2) rfl ?_)
    clear h a w; intro z a w hz h
    refine wnil (c_then ?_)
    refine c_cond h rfl (fun ht2 => ?_) (fun ht2 => ?_)
    ·
     as_aux_lemma =>
      refine c_seq (c_region ?_)
      refine wv h (r_move h rfl) rfl ?_
      clear h a w; intro a w h
      refine wv h (r_assign h rfl) rfl ?_
      clear h a w; intro a w h
      refine wnil (c_then ?_)
      refine c_ret ?_
      rw [if_pos ht2] at h2
      exact ret1 h rfl rfl ⟨(), by rw [h2], h.2, trivial⟩
    ·
     refine c_skip ?_
     refine b_normal ?_
     refine c_then ?_
     refine c_region ?_
     refine wv h (r_bin h rfl rfl (B.add_i64 (by omega) (by omega))) rfl ?_
     clear h a w; intro a w h
     refine wv h (r_move h rfl) rfl ?_
     clear h a w; intro a w h
     refine wnil ?_
     rw [if_neg (by simp [ht2])] at h2
     exact ⟨x + 1, h.keep [0, 1, 7, 8], ⟨by omega, h2⟩, by omega⟩
   ·
    refine c_exit ?_
    refine e_then ?_
    refine e_then ?_
    refine e_here ?_
    refine c_then ?_
    refine c_seq (c_region ?_)
    refine wv h (r_assign h rfl) rfl ?_
    clear h a w; intro a w h
    refine wnil (c_then ?_)
    refine c_ret ?_
    have h3 : l.drop x = [] := List.drop_eq_nil_of_le (by omega)
    rw [h3] at h2
    exact ret1 h rfl rfl ⟨(), by rw [h2]; rfl, h.2, trivial⟩

theorem sl_DeleteFunc (s w : World) (v : Value) (l : List Key) (gf : FuncId) (cs : Array Value) (p : Key → Bool) (F : List HItem) (hgo : isGo P gf = true)
    (hcall : ∀ (G : List HItem) w k, Sat s w (G ++ F) → Calls P gf (#[] ++ [keyV k].toArray ++ cs) w (Ret s (fun _ : Unit => .bool (p k)) (fun _ => G ++ F) (fun _ => True)))
    (hl : l.length ≤ 4000000) (hs : Sat s w (OwnM 32 cellsA v l :: F)) :
    Calls P n_slices_DeleteFunc_api_Key_api_Key #[v, .func (.func gf) #[] cs] w (Ret s (fun v' : Value => v') (fun v' => OwnM 32 cellsA v' (l.filter fun x => !p x) :: F) (fun _ => True)) := by
  refine enter K.fn_slices_DeleteFunc_api_Key_api_Key rfl K.nt_slices_DeleteFunc_api_Key_api_Key rfl hs ?_
  clear hs w; intro a w h
  refine c_seq (c_region ?_)
  refine wv h (r_assign h rfl) rfl ?_
  clear h a w; intro a w h
  refine wnil (c_then ?_)
  refine c_seq (c_region ?_)
  refine wv h (r_move h rfl) rfl ?_
  clear h a w; intro a w h
  refine wv h (r_move h rfl) rfl ?_
  clear h a w; intro a w h
  refine wl rfl (op_call h rfl K.go_slices_IndexFunc_api_Key_api_Key (sl_IndexFunc s _ v l gf cs p _ hgo (fun w k hw => hcall [OwnM 32 cellsA v l] w k hw) (Views.own 0 rfl) hl h.2) rfl ?_)
  clear h a w; intro x a w hx h
  (try simp only [List.set_cons_zero, List.set_cons_succ] at h)
  refine wv h (r_assign h rfl) rfl ?_
  clear h a w; intro a w h
  refine wnil (c_then ?_)
  refine c_seq ?_
  refine c_seq (c_region ?_)
  refine wv h (r_move h rfl) rfl ?_
  clear h a w; intro a w h
  refine wv h (r_bin h rfl rfl (B.eql_int)) rfl ?_
  clear h a w; intro a w h
  refine wnil (c_then ?_)
  first
   | refine c_condD h rfl (fun ht1 => ?_) (fun ht1 => ?_)
   | refine c_condP h rfl (by first | (simp only [Bool.and_eq_true, Bool.or_eq_true, Bool.not_eq_true', decide_eq_true_eq, decide_eq_false_iff_not, ne_eq, Bool.not_eq_eq_eq_not, Bool.not_true, beq_iff_eq, bne_iff_ne]; exact Iff.rfl) | exact Iff.rfl) (fun ht1 => ?_) (fun ht1 => ?_)
  ·
   as_aux_lemma =>
    refine c_seq (c_region ?_)
    refine wv h (r_move h rfl) rfl ?_
    clear h a w; intro a w h
    refine wv h (r_assign h rfl) rfl ?_
    clear h a w; intro a w h
    refine wnil (c_then ?_)
    refine c_ret ?_
    rw [← fnIx_none p l 0 ht1] at h
    exact ret1 h rfl rfl ⟨v, rfl, by rw [← fnIx_none p l 0 ht1] at *; exact h.2, trivial⟩
  ·
   refine c_skip ?_
   refine c_then ?_
   refine c_seq ?_
   obtain ⟨i0, hi0, hil, hif⟩ := fnIx_some p l 0 ht1
   rw [Nat.zero_add] at hi0
   rw [hi0] at h
   refine c_seq (c_region ?_)
   refine wv h (r_move h rfl) rfl ?_
   clear h a w; intro a w h
   refine wv h (r_bin h rfl rfl (B.add_i64 (by omega) (by omega))) rfl ?_
   clear h a w; intro a w h
   refine wv h (r_assign h rfl) rfl ?_
   clear h a w; intro a w h
   refine wnil (c_then ?_)
   refine c_block ?_
   refine c_loop (X := Nat × List Key) (fun x => [(0, v), (1, .func (.func gf) #[] cs), (5, .int .i64 (((l.take x.1).filter fun x => !p x).length : Int)), (6, .int .i64 (x.1 : Int))]) (fun x => OwnM 32 cellsA v x.2 :: F)
     (fun x => x.1 ≤ l.length ∧ x.2.length = l.length ∧ x.2.take ((l.take x.1).filter fun x => !p x).length = (l.take x.1).filter (fun x => !p x) ∧ x.2.drop x.1 = l.drop x.1) (fun x => l.length - x.1) (i0 + 1, l)
     (by
       have q := h.keep [0, 1, 5, 6]
       have e : ((l.take (i0 + 1)).filter fun x => !p x).length = i0 := by rw [hif]; simp; omega
       show St 42 s a w [(0, v), (1, _), (5, .int .i64 (((l.take (i0 + 1)).filter fun x => !p x).length : Int)), (6, _)] _
       rw [e]; exact q) ⟨hil, rfl, by rw [hif]; simp, rfl⟩ ?_
   clear h a w; intro xx a w hx h
   obtain ⟨j, cur⟩ := xx
   obtain ⟨h1, h2, h3, h4⟩ := hx
   simp only at h1 h2 h3 h4 h
   obtain ⟨ii, hii⟩ : ∃ ii, ii = ((l.take j).filter fun x => !p x).length := ⟨_, rfl⟩
   have hile : ii ≤ j := by rw [hii]; exact Nat.le_trans (List.length_filter_le _ _) (by simp; omega)
   rw [← hii] at h h3
   as_aux_lemma =>
    refine c_seq ?_
    refine c_seq (c_region ?_)
    refine wv h (r_move h rfl) rfl ?_
    clear h a w; intro a w h
    refine wv h (r_move h rfl) rfl ?_
    clear h a w; intro a w h
    refine wv h (r_lenV h rfl K.u_S_api_Key (by first | exact Views.own 0 rfl | exact Views.own 1 rfl | exact Views.own 2 rfl | exact Views.own 3 rfl | exact Views.own 4 rfl | exact Views.own 5 rfl | assumption | exact Views.of_drop 1 (by assumption) | exact Views.of_drop 2 (by assumption) | exact Views.of_drop 3 (by assumption) | exact Views.of_drop 4 (by assumption) | exact Views.of_drop 5 (by assumption) | exact Views.of_drop 6 (by assumption) | exact Views.of_drop 7 (by assumption) | exact Views.of_drop 8 (by assumption) | exact Views.of_drop 9 (by assumption) | exact Views.of_drop 10 (by assumption) | exact Views.of_drop 11 (by assumption) | exact Views.of_drop 12 (by assumption))) rfl ?_
    clear h a w; intro a w h
    refine wv h (r_bin h rfl rfl (B.lss_int)) rfl ?_
    clear h a w; intro a w h
    refine wnil (c_then ?_)
    first
     | refine c_condD h rfl (fun ht2 => ?_) (fun ht2 => ?_)
     | refine c_condP h rfl (by first | (simp only [Bool.and_eq_true, Bool.or_eq_true, Bool.not_eq_true', decide_eq_true_eq, decide_eq_false_iff_not, ne_eq, Bool.not_eq_eq_eq_not, Bool.not_true, beq_iff_eq, bne_iff_ne]; exact Iff.rfl) | exact Iff.rfl) (fun ht2 => ?_) (fun ht2 => ?_)
    ·
     have hlt : j < l.length := by simp at ht2; omega
     obtain ⟨y, hy⟩ : ∃ y, l[j]? = some y := ⟨_, List.getElem?_eq_getElem hlt⟩
     have hyc : cur[j]? = some y := by
       have : (cur.drop j)[0]? = (l.drop j)[0]? := by rw [h4]
       simpa [hy] using this
     have htk : l.take (j + 1) = l.take j ++ [y] := by rw [List.take_add_one, hy]; rfl
     refine c_skip ?_
     refine c_then ?_
     refine c_seq ?_
     refine c_block ?_
     refine c_seq (c_region ?_)
     refine wv h (r_move h rfl) rfl ?_
     clear h a w; intro a w h
     refine wv h (r_move h rfl) rfl ?_
     clear h a w; intro a w h
     refine wv h (r_elP h rfl rfl K.u_S_api_Key K.sz_api_Key (by first | exact Views.own 0 rfl | exact Views.own 1 rfl | exact Views.own 2 rfl | exact Views.own 3 rfl | exact Views.own 4 rfl | exact Views.own 5 rfl | assumption | exact Views.of_drop 1 (by assumption) | exact Views.of_drop 2 (by assumption) | exact Views.of_drop 3 (by assumption) | exact Views.of_drop 4 (by assumption) | exact Views.of_drop 5 (by assumption) | exact Views.of_drop 6 (by assumption) | exact Views.of_drop 7 (by assumption) | exact Views.of_drop 8 (by assumption) | exact Views.of_drop 9 (by assumption) | exact Views.of_drop 10 (by assumption) | exact Views.of_drop 11 (by assumption) | exact Views.of_drop 12 (by assumption)) (by first | omega | (simp; done)) (by first | omega | (simp only [List.length_cons, List.length_nil]; omega) | (simp; done) | (simp; omega))) rfl ?_
     clear h a w; intro a w h
     first
          | (refine wv h (r_elM h rfl K.u_api_Key rfl K.sz_api_Key rfl (by first | exact Views.own 0 rfl | exact Views.own 1 rfl | exact Views.own 2 rfl | exact Views.own 3 rfl | exact Views.own 4 rfl | exact Views.own 5 rfl | assumption | exact Views.of_drop 1 (by assumption) | exact Views.of_drop 2 (by assumption) | exact Views.of_drop 3 (by assumption) | exact Views.of_drop 4 (by assumption) | exact Views.of_drop 5 (by assumption) | exact Views.of_drop 6 (by assumption) | exact Views.of_drop 7 (by assumption) | exact Views.of_drop 8 (by assumption) | exact Views.of_drop 9 (by assumption) | exact Views.of_drop 10 (by assumption) | exact Views.of_drop 11 (by assumption) | exact Views.of_drop 12 (by assumption)) (by assumption)) rfl ?_)
          | (refine wv h (r_elMd h rfl K.u_api_Key rfl K.sz_api_Key rfl (by first | exact Views.own 0 rfl | exact Views.own 1 rfl | exact Views.own 2 rfl | exact Views.own 3 rfl | exact Views.own 4 rfl | exact Views.own 5 rfl | assumption | exact Views.of_drop 1 (by assumption) | exact Views.of_drop 2 (by assumption) | exact Views.of_drop 3 (by assumption) | exact Views.of_drop 4 (by assumption) | exact Views.of_drop 5 (by assumption) | exact Views.of_drop 6 (by assumption) | exact Views.of_drop 7 (by assumption) | exact Views.of_drop 8 (by assumption) | exact Views.of_drop 9 (by assumption) | exact Views.of_drop 10 (by assumption) | exact Views.of_drop 11 (by assumption) | exact Views.of_drop 12 (by assumption)) (by first | omega | (simp only [List.length_cons, List.length_nil]; omega) | (simp; done) | (simp; omega))) rfl ?_)
     clear h a w; intro a w h
     refine wl rfl (op_alloc h K.z_api_Key rfl ?_)
     clear h a w; intro b7 a w h
     rw [show (Value.agg (Array.replicate 32 (Value.int .u8 0))).cells = arr8 (List.replicate 32 0) from (arr8_zero 32).symm] at h
     first
          | (refine wl rfl (op_storeA8 h rfl rfl K.sz_api_Key (by first | rfl | assumption | (simp; done) | (simp; omega) | omega) 0 rfl (by first | rfl | (simp [arr8]; done) | (simp [arr8]; omega) | (simp [arr8]; assumption)) ?_))
          | (refine wl rfl (op_storeA8 h rfl rfl K.sz_api_Key (by first | rfl | assumption | (simp; done) | (simp; omega) | omega) 1 rfl (by first | rfl | (simp [arr8]; done) | (simp [arr8]; omega) | (simp [arr8]; assumption)) ?_))
          | (refine wl rfl (op_storeA8 h rfl rfl K.sz_api_Key (by first | rfl | assumption | (simp; done) | (simp; omega) | omega) 2 rfl (by first | rfl | (simp [arr8]; done) | (simp [arr8]; omega) | (simp [arr8]; assumption)) ?_))
          | (refine wl rfl (op_storeA8 h rfl rfl K.sz_api_Key (by first | rfl | assumption | (simp; done) | (simp; omega) | omega) 3 rfl (by first | rfl | (simp [arr8]; done) | (simp [arr8]; omega) | (simp [arr8]; assumption)) ?_))
          | (refine wl rfl (op_storeA8 h rfl rfl K.sz_api_Key (by first | rfl | assumption | (simp; done) | (simp; omega) | omega) 4 rfl (by first | rfl | (simp [arr8]; done) | (simp [arr8]; omega) | (simp [arr8]; assumption)) ?_))
          | (refine wl rfl (op_storeA8 h rfl rfl K.sz_api_Key (by first | rfl | assumption | (simp; done) | (simp; omega) | omega) 5 rfl (by first | rfl | (simp [arr8]; done) | (simp [arr8]; omega) | (simp [arr8]; assumption)) ?_))
     clear h a w; intro a w h
     (try simp only [List.set_cons_zero, List.set_cons_succ] at h)
     refine wnil (c_then ?_)
     refine c_seq (c_region ?_)
     refine wv h (r_move h rfl) rfl ?_
     clear h a w; intro a w h
     first
          | (refine wv h (r_loadA8 h rfl K.u_api_Key rfl K.sz_api_Key 0 rfl (by first | rfl | assumption | (simp; done) | (simp; omega) | omega)) rfl ?_)
          | (refine wv h (r_loadA8 h rfl K.u_api_Key rfl K.sz_api_Key 1 rfl (by first | rfl | assumption | (simp; done) | (simp; omega) | omega)) rfl ?_)
          | (refine wv h (r_loadA8 h rfl K.u_api_Key rfl K.sz_api_Key 2 rfl (by first | rfl | assumption | (simp; done) | (simp; omega) | omega)) rfl ?_)
          | (refine wv h (r_loadA8 h rfl K.u_api_Key rfl K.sz_api_Key 3 rfl (by first | rfl | assumption | (simp; done) | (simp; omega) | omega)) rfl ?_)
          | (refine wv h (r_loadA8 h rfl K.u_api_Key rfl K.sz_api_Key 4 rfl (by first | rfl | assumption | (simp; done) | (simp; omega) | omega)) rfl ?_)
          | (refine wv h (r_loadA8 h rfl K.u_api_Key rfl K.sz_api_Key 5 rfl (by first | rfl | assumption | (simp; done) | (simp; omega) | omega)) rfl ?_)
          | (refine wv h (r_loadCA h rfl K.u_api_Key rfl K.sz_api_Key (by assumption) (by first | rfl | assumption | (simp; done) | (simp; omega) | omega)) rfl ?_)
     clear h a w; intro a w h
     refine wl rfl (op_callV (vs := [keyV y]) h rfl rfl hgo (hcall [_, _] _ y h.2) rfl ?_)
     clear h a w; intro z a w hz h
     simp only [List.cons_append, List.nil_append] at h
     refine wv h (r_not h rfl) rfl ?_
     clear h a w; intro a w h
     refine wnil (c_then ?_)
     refine c_cond h rfl (fun ht3 => ?_) (fun ht3 => ?_)
     ·
      have hkeep : ((l.take (j + 1)).filter fun x => !p x) = ((l.take j).filter fun x => !p x) ++ [y] := by rw [htk, List.filter_append, List.filter_cons_of_pos (by exact ht3)]; rfl
      as_aux_lemma =>
       refine c_seq (c_region ?_)
       refine wv h (r_move h rfl) rfl ?_
       clear h a w; intro a w h
       refine wv h (r_move h rfl) rfl ?_
       clear h a w; intro a w h
       first
              | (refine wv h (r_loadA8 h rfl K.u_api_Key rfl K.sz_api_Key 0 rfl (by first | rfl | assumption | (simp; done) | (simp; omega) | omega)) rfl ?_)
              | (refine wv h (r_loadA8 h rfl K.u_api_Key rfl K.sz_api_Key 1 rfl (by first | rfl | assumption | (simp; done) | (simp; omega) | omega)) rfl ?_)
              | (refine wv h (r_loadA8 h rfl K.u_api_Key rfl K.sz_api_Key 2 rfl (by first | rfl | assumption | (simp; done) | (simp; omega) | omega)) rfl ?_)
              | (refine wv h (r_loadA8 h rfl K.u_api_Key rfl K.sz_api_Key 3 rfl (by first | rfl | assumption | (simp; done) | (simp; omega) | omega)) rfl ?_)
              | (refine wv h (r_loadA8 h rfl K.u_api_Key rfl K.sz_api_Key 4 rfl (by first | rfl | assumption | (simp; done) | (simp; omega) | omega)) rfl ?_)
              | (refine wv h (r_loadA8 h rfl K.u_api_Key rfl K.sz_api_Key 5 rfl (by first | rfl | assumption | (simp; done) | (simp; omega) | omega)) rfl ?_)
              | (refine wv h (r_loadCA h rfl K.u_api_Key rfl K.sz_api_Key (by assumption) (by first | rfl | assumption | (simp; done) | (simp; omega) | omega)) rfl ?_)
       clear h a w; intro a w h
       refine wv h (r_elP h rfl rfl K.u_S_api_Key K.sz_api_Key (by first | exact Views.own 0 rfl | exact Views.own 1 rfl | exact Views.own 2 rfl | exact Views.own 3 rfl | exact Views.own 4 rfl | exact Views.own 5 rfl | assumption | exact Views.of_drop 1 (by assumption) | exact Views.of_drop 2 (by assumption) | exact Views.of_drop 3 (by assumption) | exact Views.of_drop 4 (by assumption) | exact Views.of_drop 5 (by assumption) | exact Views.of_drop 6 (by assumption) | exact Views.of_drop 7 (by assumption) | exact Views.of_drop 8 (by assumption) | exact Views.of_drop 9 (by assumption) | exact Views.of_drop 10 (by assumption) | exact Views.of_drop 11 (by assumption) | exact Views.of_drop 12 (by assumption)) (by first | omega | (simp; done)) (by first | omega | (simp only [List.length_cons, List.length_nil]; omega) | (simp; done) | (simp; omega))) rfl ?_
       clear h a w; intro a w h
       refine wl rfl (op_storeR (cells := cellsA) (u := y) h rfl rfl K.sz_api_Key 1 rfl (by omega) ?_)
       clear h a w; intro a w h
       simp only [List.set_cons_zero, List.set_cons_succ] at h
       refine wnil (c_then ?_)
       refine c_region ?_
       refine wv h (r_move h rfl) rfl ?_
       clear h a w; intro a w h
       refine wv h (r_bin h rfl rfl (B.add_i64 (by omega) (by omega))) rfl ?_
       clear h a w; intro a w h
       refine wv h (r_assign h rfl) rfl ?_
       clear h a w; intro a w h
       refine wnil ?_
       refine b_normal ?_
       refine c_then ?_
       refine c_region ?_
       refine wv h (r_move h rfl) rfl ?_
       clear h a w; intro a w h
       refine wv h (r_bin h rfl rfl (B.add_i64 (by omega) (by omega))) rfl ?_
       clear h a w; intro a w h
       refine wv h (r_assign h rfl) rfl ?_
       clear h a w; intro a w h
       refine wnil ?_
       have hlen : ((l.take (j + 1)).filter fun x => !p x).length = ii + 1 := by rw [hkeep, List.length_append, ← hii]; rfl
       refine ⟨(j + 1, cur.set ii y), ?_, ⟨hlt, by simpa using h2, ?_, ?_⟩, by show l.length - (j + 1) < l.length - j; omega⟩
       · have q := (h.keep [0, 1, 5, 6]).drop 1
         show St 42 s a w [(0, v), (1, _), (5, .int .i64 (((l.take (j + 1)).filter fun x => !p x).length : Int)), (6, _)] _
         rw [hlen]; exact q
       · rw [hlen, hkeep, ← h3, List.take_add_one]
         have hi2 : ii < cur.length := by omega
         rw [List.take_set_of_le (Nat.le_refl _)]
         simp [hi2]
       · show (cur.set ii y).drop (j + 1) = l.drop (j + 1)
         rw [List.drop_set_of_lt (by omega), ← List.drop_drop, h4, List.drop_drop]
     ·
      have hkeep : ((l.take (j + 1)).filter fun x => !p x) = ((l.take j).filter fun x => !p x) := by rw [htk, List.filter_append, List.filter_cons_of_neg (by rw [ht3]; simp)]; simp
      refine c_skip ?_
      refine b_normal ?_
      refine c_then ?_
      refine c_region ?_
      refine wv h (r_move h rfl) rfl ?_
      clear h a w; intro a w h
      refine wv h (r_bin h rfl rfl (B.add_i64 (by omega) (by omega))) rfl ?_
      clear h a w; intro a w h
      refine wv h (r_assign h rfl) rfl ?_
      clear h a w; intro a w h
      refine wnil ?_
      refine ⟨(j + 1, cur), ?_, ⟨hlt, h2, ?_, ?_⟩, by show l.length - (j + 1) < l.length - j; omega⟩
      · have q := (h.keep [0, 1, 5, 6]).drop 1
        show St 42 s a w [(0, v), (1, _), (5, .int .i64 (((l.take (j + 1)).filter fun x => !p x).length : Int)), (6, _)] _
        rw [hkeep, ← hii]; exact q
      · show cur.take ((l.take (j + 1)).filter fun x => !p x).length = _
        rw [hkeep, ← hii, h3]
      · show cur.drop (j + 1) = l.drop (j + 1)
        rw [← List.drop_drop, h4, List.drop_drop]
    ·
     have hjl : j = l.length := by simp at ht2; omega
     refine c_exit ?_
     refine e_then ?_
     refine e_then ?_
     refine e_here ?_
     refine c_then ?_
     refine c_seq (c_region ?_)
     refine wv h (r_move h rfl) rfl ?_
     clear h a w; intro a w h
     refine wv h (r_move h rfl) rfl ?_
     clear h a w; intro a w h
     refine wv h (r_sliceV h rfl K.u_S_api_Key K.sz_api_Key (Views.own 0 rfl) ii cur.length (Bnd.of rfl rfl) Bnd.no (by omega) (Nat.le_refl _)) rfl ?_
     clear h a w; intro a w h
     refine wl rfl (op_clear h rfl K.u_S_api_Key K.z_api_Key rfl (by intro u hu; simp [Value.cells] at hu; subst hu; rfl) 0 rfl (by omega) ?_)
     clear h a w; intro zs a w hzs h
     refine wnil (c_then ?_)
     refine c_seq (c_region ?_)
     refine wv h (r_move h rfl) rfl ?_
     clear h a w; intro a w h
     refine wv h (r_move h rfl) rfl ?_
     clear h a w; intro a w h
     refine wl rfl (op_sliceOwn h rfl K.u_S_api_Key K.sz_api_Key 0 rfl 0 ii Bnd.no (Bnd.of rfl rfl) (Nat.zero_le _) (by omega) rfl rfl ?_)
     clear h a w; intro a w h
     refine wv h (r_assign h rfl) rfl ?_
     clear h a w; intro a w h
     refine wnil (c_then ?_)
     refine c_ret ?_
     have e : (((cur.flatMap cellsA).take (ii * 32) ++ zs).drop (0 * 32)).take ((ii - 0) * 32) = (l.filter fun x => !p x).flatMap cellsA := by
       rw [Nat.zero_mul, List.drop_zero, Nat.sub_zero, List.take_left' (by rw [List.length_take, keys_flat]; omega), flatMap_take, h3, hjl, List.take_length]
     have hl2 : ii - 0 = (l.filter fun x => !p x).length := by rw [hii, hjl, List.take_length]; rfl
     refine ret1 h rfl rfl ⟨_, rfl, ?_, trivial⟩
     have q := h.2
     simp only [List.set_cons_zero] at q
     rw [OwnM_eq (l := l.filter fun x => !p x) e hl2] at q
     exact q
end Go.Proofs.K
