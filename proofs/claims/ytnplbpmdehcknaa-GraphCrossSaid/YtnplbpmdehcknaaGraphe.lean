/- The contracts of package slices that package graph uses; Ahead. -/
import Derived.Test.YtnplbpmdehcknaaGraphd
import Derived.Test.YtnplbpmdehcknaaGraphPure
set_option linter.unusedVariables false
set_option linter.unusedSimpArgs false
set_option maxRecDepth 10000
set_option maxHeartbeats 2000000
namespace Go.Proofs.K
open Go.Sl
attribute [local irreducible] Go.Sl.Own Go.Sl.Blk Go.Sl.Sep Go.Sl.Ex Go.Sl.Fact

theorem sl_Index (s w : World) (v : Value) (l : List Key) (k : Key) (F : List HItem) (hv : Views F 32 v l.length (l.flatMap cellsA)) (hl : l.length ≤ 4000000) (hs : Sat s w F) :
    Calls P n_slices_Index_api_Key_api_Key #[v, keyV k] w (Ret s (fun _ : Unit => .int .i64 (keyIx l k 0)) (fun _ => F) (fun _ => True)) := by
  refine enter K.fn_slices_Index_api_Key_api_Key rfl K.nt_slices_Index_api_Key_api_Key rfl hs ?_
  clear hs w; intro a w h
  unfold keyV at h
  refine c_seq (c_region ?_)
  refine wl rfl (op_box h rfl rfl ?_)
  clear h a w; intro b3 a w h
  try simp only [Value.cells] at h
  refine wv h (r_assign h rfl) rfl ?_
  clear h a w; intro a w h
  refine wnil (c_then ?_)
  refine c_seq ?_
  refine c_seq (c_region ?_)
  refine wv h (r_move h rfl) rfl ?_
  clear h a w; intro a w h
  refine wv h (r_lenV h rfl K.u_S_api_Key (by first | exact Views.own 0 rfl | exact Views.own 1 rfl | exact Views.own 2 rfl | exact Views.own 3 rfl | exact Views.own 4 rfl | exact Views.own 5 rfl | assumption | exact Views.of_drop 1 (by assumption) | exact Views.of_drop 2 (by assumption) | exact Views.of_drop 3 (by assumption) | exact Views.of_drop 4 (by assumption) | exact Views.of_drop 5 (by assumption) | exact Views.of_drop 6 (by assumption) | exact Views.of_drop 7 (by assumption) | exact Views.of_drop 8 (by assumption) | exact Views.of_drop 9 (by assumption) | exact Views.of_drop 10 (by assumption) | exact Views.of_drop 11 (by assumption) | exact Views.of_drop 12 (by assumption))) rfl ?_
  clear h a w; intro a w h
  refine wv h (r_move h rfl) rfl ?_
  clear h a w; intro a w h
  refine wnil (c_then ?_)
  refine c_block ?_
  have hn := hv.cons (Blk b3 (.cells ⟨cellsA k⟩ t_api_Key))
  refine c_loop (X := Nat) (fun i => [(0, v), (3, .pointer (some ⟨b3, 0, none⟩)), (7, .int .i64 (l.length : Int)), (8, .int .i64 (i : Int))]) (fun _ => Blk b3 (.cells ⟨cellsA k⟩ t_api_Key) :: F) (fun i => i ≤ l.length ∧ keyIx l k 0 = keyIx (l.drop i) k i) (fun i => l.length - i) 0 (h.keep [0, 3, 7, 8]) ⟨Nat.zero_le _, rfl⟩ ?_
  clear h a w; intro x a w hx h
  obtain ⟨h1, h2⟩ := hx
  as_aux_lemma =>
   refine c_seq (c_region ?_)
   refine wv h (r_bin h rfl rfl (B.lss_int)) rfl ?_
   clear h a w; intro a w h
   refine wnil (c_then ?_)
   refine c_seq ?_
   first
    | refine c_condD h rfl (fun ht1 => ?_) (fun ht1 => ?_)
    | refine c_condP h rfl (by first | (simp only [Bool.and_eq_true, Bool.or_eq_true, Bool.not_eq_true', decide_eq_true_eq, decide_eq_false_iff_not, ne_eq, Bool.not_eq_eq_eq_not, Bool.not_true, beq_iff_eq, bne_iff_ne]; exact Iff.rfl) | exact Iff.rfl) (fun ht1 => ?_) (fun ht1 => ?_)
   ·
    have hlt : x < l.length := by omega
    obtain ⟨y, hy⟩ : ∃ y, l[x]? = some y := ⟨_, List.getElem?_eq_getElem hlt⟩
    rw [keyIx_step l k hy] at h2
    refine c_skip ?_
    refine c_then ?_
    refine c_seq ?_
    refine c_block ?_
    refine c_seq (c_region ?_)
    refine wv h (r_move h rfl) rfl ?_
    clear h a w; intro a w h
    refine wv h (r_assign h rfl) rfl ?_
    clear h a w; intro a w h
    refine wnil (c_then ?_)
    refine c_seq (c_draw K.mixed (by kernel_rfl) h ?_)
    clear h a w; intro a hE
    first
        | (refine qv hE (fun w hw => r_loadA8 ⟨hE, hw⟩ rfl K.u_api_Key rfl K.sz_api_Key 0 rfl (by first | rfl | assumption | (simp; done) | (simp; omega) | omega)) rfl ?_)
        | (refine qv hE (fun w hw => r_loadA8 ⟨hE, hw⟩ rfl K.u_api_Key rfl K.sz_api_Key 1 rfl (by first | rfl | assumption | (simp; done) | (simp; omega) | omega)) rfl ?_)
        | (refine qv hE (fun w hw => r_loadA8 ⟨hE, hw⟩ rfl K.u_api_Key rfl K.sz_api_Key 2 rfl (by first | rfl | assumption | (simp; done) | (simp; omega) | omega)) rfl ?_)
        | (refine qv hE (fun w hw => r_loadA8 ⟨hE, hw⟩ rfl K.u_api_Key rfl K.sz_api_Key 3 rfl (by first | rfl | assumption | (simp; done) | (simp; omega) | omega)) rfl ?_)
        | (refine qv hE (fun w hw => r_loadA8 ⟨hE, hw⟩ rfl K.u_api_Key rfl K.sz_api_Key 4 rfl (by first | rfl | assumption | (simp; done) | (simp; omega) | omega)) rfl ?_)
        | (refine qv hE (fun w hw => r_loadA8 ⟨hE, hw⟩ rfl K.u_api_Key rfl K.sz_api_Key 5 rfl (by first | rfl | assumption | (simp; done) | (simp; omega) | omega)) rfl ?_)
        | (refine qv hE (fun w hw => r_loadCA ⟨hE, hw⟩ rfl K.u_api_Key rfl K.sz_api_Key (by assumption) (by first | rfl | assumption | (simp; done) | (simp; omega) | omega)) rfl ?_)
    clear hE a; intro a hE
    refine qv hE (fun w hw => r_move ⟨hE, hw⟩ rfl) rfl ?_
    clear hE a; intro a hE
    refine qv hE (fun w hw => r_move ⟨hE, hw⟩ rfl) rfl ?_
    clear hE a; intro a hE
    refine qv hE (fun w hw => r_elP ⟨hE, hw⟩ rfl rfl K.u_S_api_Key K.sz_api_Key (by first | exact Views.own 0 rfl | exact Views.own 1 rfl | exact Views.own 2 rfl | exact Views.own 3 rfl | exact Views.own 4 rfl | exact Views.own 5 rfl | assumption | exact Views.of_drop 1 (by assumption) | exact Views.of_drop 2 (by assumption) | exact Views.of_drop 3 (by assumption) | exact Views.of_drop 4 (by assumption) | exact Views.of_drop 5 (by assumption) | exact Views.of_drop 6 (by assumption) | exact Views.of_drop 7 (by assumption) | exact Views.of_drop 8 (by assumption) | exact Views.of_drop 9 (by assumption) | exact Views.of_drop 10 (by assumption) | exact Views.of_drop 11 (by assumption) | exact Views.of_drop 12 (by assumption)) (by first | omega | (simp; done)) (by first | omega | (simp only [List.length_cons, List.length_nil]; omega) | (simp; done) | (simp; omega))) rfl ?_
    clear hE a; intro a hE
    refine qv hE (fun w hw => r_elM (cells := cellsA) ⟨hE, hw⟩ rfl K.u_api_Key rfl K.sz_api_Key rfl hn hy) rfl ?_
    clear hE a; intro a hE
    refine qv hE (fun w hw => r_arreq ⟨hE, hw⟩ rfl rfl K.u_api_Key K.u_uint8 K.sz_uint8 (by kernel_rfl) (by first | rfl | assumption | (simp; done) | (simp; omega) | omega) (by first | rfl | assumption | (simp; done) | (simp; omega) | omega)) rfl ?_
    clear hE a; intro a hE
    refine qnil hE ?_
    clear hE a; intro a w h
    refine c_then ?_
    refine c_cond h rfl (fun ht2 => ?_) (fun ht2 => ?_)
    ·
     as_aux_lemma =>
      refine c_seq (c_region ?_)
      refine wv h (r_move h rfl) rfl ?_
      clear h a w; intro a w h
      refine wv h (r_assign h rfl) rfl ?_
      clear h a w; intro a w h
      refine wnil (c_then ?_)
      refine c_ret ?_
      have e : k = y := BA.ext' (by simpa using ht2)
      rw [if_pos e] at h2
      exact ret1 h rfl rfl ⟨(), by rw [h2], h.2.drop 1, trivial⟩
    ·
     refine c_skip ?_
     refine b_normal ?_
     refine c_then ?_
     refine c_region ?_
     refine wv h (r_bin h rfl rfl (B.add_i64 (by omega) (by omega))) rfl ?_
     clear h a w; intro a w h
     refine wv h (r_move h rfl) rfl ?_
     clear h a w; intro a w h
     refine wnil ?_
     have e : ¬ k = y := fun e => by rw [e] at ht2; simp at ht2
     rw [if_neg e] at h2
     exact ⟨x + 1, h.keep [0, 3, 7, 8], ⟨by omega, h2⟩, by omega⟩
   ·
    refine c_exit ?_
    refine e_then ?_
    refine e_then ?_
    refine e_here ?_
    refine c_then ?_
    refine c_seq (c_region ?_)
    refine wv h (r_assign h rfl) rfl ?_
    clear h a w; intro a w h
    refine wnil (c_then ?_)
    refine c_ret ?_
    have h3 : l.drop x = [] := List.drop_eq_nil_of_le (by omega)
    rw [h3] at h2
    exact ret1 h rfl rfl ⟨(), by rw [h2]; rfl, h.2.drop 1, trivial⟩

theorem sl_Contains (s w : World) (v : Value) (l : List Key) (k : Key) (F : List HItem) (hv : Views F 32 v l.length (l.flatMap cellsA)) (hl : l.length ≤ 4000000) (hs : Sat s w F) :
    Calls P n_slices_Contains_api_Key_api_Key #[v, keyV k] w (Ret s (fun _ : Unit => .bool (decide (k ∈ l))) (fun _ => F) (fun _ => True)) := by
  refine enter K.fn_slices_Contains_api_Key_api_Key rfl K.nt_slices_Contains_api_Key_api_Key rfl hs ?_
  clear hs w; intro a w h
  unfold keyV at h
  refine c_seq (c_region ?_)
  refine wl rfl (op_box h rfl rfl ?_)
  clear h a w; intro b3 a w h
  try simp only [Value.cells] at h
  refine wv h (r_assign h rfl) rfl ?_
  clear h a w; intro a w h
  refine wnil (c_then ?_)
  refine c_seq (c_region ?_)
  refine wv h (r_move h rfl) rfl ?_
  clear h a w; intro a w h
  first
    | (refine wv h (r_loadA8 h rfl K.u_api_Key rfl K.sz_api_Key 0 rfl (by first | rfl | assumption | (simp; done) | (simp; omega) | omega)) rfl ?_)
    | (refine wv h (r_loadA8 h rfl K.u_api_Key rfl K.sz_api_Key 1 rfl (by first | rfl | assumption | (simp; done) | (simp; omega) | omega)) rfl ?_)
    | (refine wv h (r_loadA8 h rfl K.u_api_Key rfl K.sz_api_Key 2 rfl (by first | rfl | assumption | (simp; done) | (simp; omega) | omega)) rfl ?_)
    | (refine wv h (r_loadA8 h rfl K.u_api_Key rfl K.sz_api_Key 3 rfl (by first | rfl | assumption | (simp; done) | (simp; omega) | omega)) rfl ?_)
    | (refine wv h (r_loadA8 h rfl K.u_api_Key rfl K.sz_api_Key 4 rfl (by first | rfl | assumption | (simp; done) | (simp; omega) | omega)) rfl ?_)
    | (refine wv h (r_loadA8 h rfl K.u_api_Key rfl K.sz_api_Key 5 rfl (by first | rfl | assumption | (simp; done) | (simp; omega) | omega)) rfl ?_)
    | (refine wv h (r_loadCA h rfl K.u_api_Key rfl K.sz_api_Key (by assumption) (by first | rfl | assumption | (simp; done) | (simp; omega) | omega)) rfl ?_)
  clear h a w; intro a w h
  refine wl rfl (op_call h rfl K.go_slices_Index_api_Key_api_Key (sl_Index s _ v l k _ (hv.cons _) hl h.2) rfl ?_)
  clear h a w; intro x a w hx h
  (try simp only [List.set_cons_zero, List.set_cons_succ] at h)
  refine wv h (r_bin h rfl rfl (B.geq_int)) rfl ?_
  clear h a w; intro a w h
  refine wv h (r_assign h rfl) rfl ?_
  clear h a w; intro a w h
  refine wnil (c_then ?_)
  refine c_ret ?_
  rw [keyIx_mem] at h
  exact ret1 h rfl rfl ⟨(), rfl, h.2.drop 1, trivial⟩

theorem one_view {L : List HItem} {b : Nat} {T : TypeId} (y : Key) : Views (Blk b (.cells ⟨List.map bv y.val⟩ T) :: L) 32 (.slice (some ⟨b, 0, none⟩) [y].length 1) [y].length ([y].flatMap cellsA) := by
  refine Views.blk (vs := ⟨List.map bv y.val⟩) 0 rfl rfl rfl ?_ ?_
  · have : y.val.length = 32 := y.len
    simp only [List.flatMap_cons, List.flatMap_nil, List.append_nil, cellsA, bs]
    show (List.drop 0 (List.map bv y.val)).take 32 = List.map bv y.val
    rw [List.drop_zero, List.take_of_length_le (by simp [this])]
  · simp only [List.flatMap_cons, List.flatMap_nil, List.append_nil]
    rw [Row.len y]; rfl

theorem g_Ahead (s w : World) (b : Nat) (x y : Key) (nv : Value) (xs : List NodeV) (F : List HItem) (m : Nat) (r : List Key × Int)
    (hB : BookV F b nv xs) (hl : xs.length ≤ 4000000) (hp : ∀ x ∈ xs, x.pars.length ≤ 99) (hr : BfsOk (nsOf xs) m [] [y] r) (hrl : r.1.length ≤ 4000000) (hs : Sat s w F) :
    Calls P n_graph_Ahead #[.iface t_p_interleafref18_Book (gp b), keyV x, keyV y] w (Ret s (fun _ : Unit => .tuple #[.bool (decide (x ∈ r.1)), .int .i64 r.2]) (fun _ => F) (fun _ => True)) := by
  refine enter K.fn_graph_Ahead rfl K.nt_graph_Ahead rfl hs ?_
  clear hs w; intro a w h
  unfold keyV at h
  refine c_seq (c_region ?_)
  refine wl rfl (op_box h rfl rfl ?_)
  clear h a w; intro b4 a w h
  try simp only [Value.cells] at h
  refine wl rfl (op_box h rfl rfl ?_)
  clear h a w; intro b5 a w h
  try simp only [Value.cells] at h
  refine wv h (r_assign h rfl) rfl ?_
  clear h a w; intro a w h
  refine wv h (r_assign h rfl) rfl ?_
  clear h a w; intro a w h
  refine wnil (c_then ?_)
  refine c_seq (c_region ?_)
  refine wv h (r_move h rfl) rfl ?_
  clear h a w; intro a w h
  first
    | (refine wv h (r_loadA8 h rfl K.u_api_Key rfl K.sz_api_Key 0 rfl (by first | rfl | assumption | (simp; done) | (simp; omega) | omega)) rfl ?_)
    | (refine wv h (r_loadA8 h rfl K.u_api_Key rfl K.sz_api_Key 1 rfl (by first | rfl | assumption | (simp; done) | (simp; omega) | omega)) rfl ?_)
    | (refine wv h (r_loadA8 h rfl K.u_api_Key rfl K.sz_api_Key 2 rfl (by first | rfl | assumption | (simp; done) | (simp; omega) | omega)) rfl ?_)
    | (refine wv h (r_loadA8 h rfl K.u_api_Key rfl K.sz_api_Key 3 rfl (by first | rfl | assumption | (simp; done) | (simp; omega) | omega)) rfl ?_)
    | (refine wv h (r_loadA8 h rfl K.u_api_Key rfl K.sz_api_Key 4 rfl (by first | rfl | assumption | (simp; done) | (simp; omega) | omega)) rfl ?_)
    | (refine wv h (r_loadA8 h rfl K.u_api_Key rfl K.sz_api_Key 5 rfl (by first | rfl | assumption | (simp; done) | (simp; omega) | omega)) rfl ?_)
    | (refine wv h (r_loadCA h rfl K.u_api_Key rfl K.sz_api_Key (by assumption) (by first | rfl | assumption | (simp; done) | (simp; omega) | omega)) rfl ?_)
  clear h a w; intro a w h
  refine wl rfl (op_build1 h K.u_S_api_Key K.sz_api_Key K.z_api_Key rfl rfl rfl (by first | exact Row.len _ | rfl | assumption | (simp; done) | (simp; omega) | omega) rfl ?_)
  clear h a w; intro b13 a w h
  refine wl rfl (op_call h rfl K.go_graph_All (g_All s _ b (some ⟨b13, 0, none⟩) 1 [y] nv xs _ m r (one_view y) (by exact BookV.of_drop 3 hB) hl hp hr h.2) rfl ?_)
  clear h a w; intro v a w hx h
  (try simp only [List.set_cons_zero, List.set_cons_succ] at h)
  refine wv h (r_move h rfl) rfl ?_
  clear h a w; intro a w h
  refine wv h (r_extractN h rfl rfl) rfl ?_
  clear h a w; intro a w h
  refine wv h (r_extractN h rfl rfl) rfl ?_
  clear h a w; intro a w h
  refine wv h (r_assign h rfl) rfl ?_
  clear h a w; intro a w h
  refine wv h (r_assign h rfl) rfl ?_
  clear h a w; intro a w h
  refine wnil (c_then ?_)
  refine c_seq (c_region ?_)
  refine wv h (r_move h rfl) rfl ?_
  clear h a w; intro a w h
  first
    | (refine wv h (r_loadA8 h rfl K.u_api_Key rfl K.sz_api_Key 0 rfl (by first | rfl | assumption | (simp; done) | (simp; omega) | omega)) rfl ?_)
    | (refine wv h (r_loadA8 h rfl K.u_api_Key rfl K.sz_api_Key 1 rfl (by first | rfl | assumption | (simp; done) | (simp; omega) | omega)) rfl ?_)
    | (refine wv h (r_loadA8 h rfl K.u_api_Key rfl K.sz_api_Key 2 rfl (by first | rfl | assumption | (simp; done) | (simp; omega) | omega)) rfl ?_)
    | (refine wv h (r_loadA8 h rfl K.u_api_Key rfl K.sz_api_Key 3 rfl (by first | rfl | assumption | (simp; done) | (simp; omega) | omega)) rfl ?_)
    | (refine wv h (r_loadA8 h rfl K.u_api_Key rfl K.sz_api_Key 4 rfl (by first | rfl | assumption | (simp; done) | (simp; omega) | omega)) rfl ?_)
    | (refine wv h (r_loadA8 h rfl K.u_api_Key rfl K.sz_api_Key 5 rfl (by first | rfl | assumption | (simp; done) | (simp; omega) | omega)) rfl ?_)
    | (refine wv h (r_loadCA h rfl K.u_api_Key rfl K.sz_api_Key (by assumption) (by first | rfl | assumption | (simp; done) | (simp; omega) | omega)) rfl ?_)
  clear h a w; intro a w h
  refine wl rfl (op_call h rfl K.go_slices_Contains_api_Key_api_Key (sl_Contains s _ v r.1 x _ (Views.own 0 rfl) hrl h.2) rfl ?_)
  clear h a w; intro x a w hx h
  (try simp only [List.set_cons_zero, List.set_cons_succ] at h)
  refine wv h (r_move h rfl) rfl ?_
  clear h a w; intro a w h
  refine wv h (r_assign h rfl) rfl ?_
  clear h a w; intro a w h
  refine wv h (r_assign h rfl) rfl ?_
  clear h a w; intro a w h
  refine wnil (c_then ?_)
  refine c_ret ?_
  exact ret2 h rfl rfl rfl ⟨(), rfl, h.2.drop 4, trivial⟩
end Go.Proofs.K
