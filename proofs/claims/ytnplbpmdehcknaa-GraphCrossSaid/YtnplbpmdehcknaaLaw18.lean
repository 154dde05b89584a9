/- The statements on graphs, walked: the example. -/
import Derived.Test.YtnplbpmdehcknaaGraphh
import Derived.Test.YtnplbpmdehcknaaTree
import Derived.Test.YtnplbpmdehcknaaGraphLaw
set_option linter.unusedVariables false
set_option linter.unusedSimpArgs false
set_option maxRecDepth 10000
set_option maxHeartbeats 2000000
namespace Go.Proofs.K
open Go.Sl
attribute [local irreducible] Go.Sl.Own Go.Sl.Blk Go.Sl.Sep Go.Sl.Ex Go.Sl.Fact
theorem law18_awake (s w : World) (F : List HItem) (hs : Sat s w F) :
    Calls P n_law18_awake #[] w (Ret s (fun _ : Unit => .bool true) (fun _ => F) (fun _ => True)) := by
  refine enter K.fn_law18_awake rfl K.nt_law18_awake rfl hs ?_
  clear hs w; intro a w h
  refine c_seq (c_region ?_)
  refine wv h (r_assign h rfl) rfl ?_
  clear h a w; intro a w h
  refine wnil (c_then ?_)
  refine c_seq (c_region ?_)
  refine wl rfl (op_buildSlice h K.u_S_uint8 K.sz_uint8 K.z_uint8 rfl rfl rfl rfl rfl (by simp [Value.cells, bv, w32, w64, sv]) rfl ?_)
  clear h a w; intro b7 a w h
  refine wl rfl (op_call h rfl K.go_law18_tree (law_tree s _ _ [0, 1] _ (Views.blk 0 rfl rfl rfl rfl rfl) h.2) rfl ?_)
  clear h a w; intro z a w hz h
  (try simp only [List.set_cons_zero, List.set_cons_succ] at h)
  obtain ⟨b, kv, nv, xs⟩ := z
  replace hz : nsOf xs = tw := hz
  unfold TreeL at h
  simp only [List.cons_append, List.nil_append] at h
  obtain ⟨hall, hp, hl⟩ := facts (xs := xs) (by rw [hz]; exact tw_good)
  have hk0 : (treeS [0, 1] (min [(0 : UInt8), 1].length 30)).1[0]? = some tw0 := rfl
  have hk1 : (treeS [0, 1] (min [(0 : UInt8), 1].length 30)).1[1]? = some tw1 := rfl
  obtain ⟨ks, hks⟩ : ∃ ks, ks = (treeS [0, 1] (min [(0 : UInt8), 1].length 30)).1 := ⟨_, rfl⟩
  rw [← hks] at h hk0 hk1
  have hksl : ks.length = 2 := by rw [hks]; exact (treeS_len _ 2).1
  refine wv h (r_move h rfl) rfl ?_
  clear h a w; intro a w h
  refine wv h (r_extractN h rfl rfl) rfl ?_
  clear h a w; intro a w h
  refine wv h (r_extractN h rfl rfl) rfl ?_
  clear h a w; intro a w h
  refine wv h (r_assign h rfl) rfl ?_
  clear h a w; intro a w h
  refine wv h (r_assign h rfl) rfl ?_
  clear h a w; intro a w h
  refine wnil (c_then ?_)
  refine c_meet h (X := Nat) (fun c => [(2, kv), (3, bp c), (4, .bool true), (5, .int .i64 0)]) (fun c => Blk c (.cells (arr8 tw0.val) t_api_Key) :: OwnM 32 cellsA kv ks :: F) (fun _ => True) ?_ ?_
  ·
   all_goals
    refine c_drawn 17 K.mixed rfl h ?_
    clear h a w; intro a w h
    have hD : Paid s w [] := Paid.nil
    refine d_take0 (listed' := #[true, false, false, false, false, false, false, false, false, false, false, false, false, false, false, false, false]) h hD 0 (by as_aux_lemma => kernel_rfl) rfl (by as_aux_lemma => kernel_rfl) (by as_aux_lemma => kernel_rfl) (by as_aux_lemma => kernel_rfl) (fun _ _ _ _ hh => hh) (fun w h => by first | exact r_move h rfl) rfl ?_
    clear hD h a w; intro a w h hD
    refine d_take0 (listed' := #[true, true, false, false, false, false, false, false, false, false, false, false, false, false, false, false, false]) h hD 1 (by as_aux_lemma => kernel_rfl) rfl (by as_aux_lemma => kernel_rfl) (by as_aux_lemma => kernel_rfl) (by as_aux_lemma => kernel_rfl) (fun _ _ _ _ hh => hh) (fun w h => by first | exact r_mkIface h rfl K.u_p_interleafref18_Book rfl) rfl ?_
    clear hD h a w; intro a w h hD
    refine d_take0 (listed' := #[true, true, true, false, false, false, false, false, false, false, false, false, false, false, false, false, false]) h hD 2 (by as_aux_lemma => kernel_rfl) rfl (by as_aux_lemma => kernel_rfl) (by as_aux_lemma => kernel_rfl) (by as_aux_lemma => kernel_rfl) (fun _ _ _ _ hh => hh) (fun w h => by first | exact r_move h rfl) rfl ?_
    clear hD h a w; intro a w h hD
    refine d_take (listed' := #[true, true, true, true, false, false, false, false, false, false, false, false, false, false, false, false, false]) h hD 3 _ (by as_aux_lemma => kernel_rfl) rfl (by as_aux_lemma => kernel_rfl) (by as_aux_lemma => kernel_rfl) (by as_aux_lemma => kernel_rfl) (fun _ _ _ _ hh => hh) h.2 (fun w hw => by first | exact r_elP ⟨h.1, hw⟩ rfl rfl K.u_S_api_Key K.sz_api_Key (by first | exact Views.own 0 rfl | exact Views.own 1 rfl | exact Views.own 2 rfl | exact Views.own 3 rfl | exact Views.own 4 rfl | exact Views.own 5 rfl | assumption | exact Views.of_drop 1 (by assumption) | exact Views.of_drop 2 (by assumption) | exact Views.of_drop 3 (by assumption) | exact Views.of_drop 4 (by assumption) | exact Views.of_drop 5 (by assumption) | exact Views.of_drop 6 (by assumption) | exact Views.of_drop 7 (by assumption) | exact Views.of_drop 8 (by assumption) | exact Views.of_drop 9 (by assumption) | exact Views.of_drop 10 (by assumption) | exact Views.of_drop 11 (by assumption) | exact Views.of_drop 12 (by assumption)) (by first | omega | (simp; done)) (by first | omega | (simp only [List.length_cons, List.length_nil]; omega) | (simp; done) | (simp; omega))) rfl ?_
    clear hD h a w; intro a w h hD
    refine d_take (listed' := #[true, true, true, true, true, false, false, false, false, false, false, false, false, false, false, false, false]) h hD 4 _ (by as_aux_lemma => kernel_rfl) rfl (by as_aux_lemma => kernel_rfl) (by as_aux_lemma => kernel_rfl) (by as_aux_lemma => kernel_rfl) (fun _ _ _ _ hh => hh) h.2 (fun w hw => by first | exact r_elM (cells := cellsA) ⟨h.1, hw⟩ rfl K.u_api_Key rfl K.sz_api_Key rfl (Views.own 0 rfl) hk0) rfl ?_
    clear hD h a w; intro a w h hD
    refine d_take0 (listed' := #[true, true, true, true, true, true, false, false, false, false, false, false, false, false, false, false, false]) h hD 5 (by as_aux_lemma => kernel_rfl) rfl (by as_aux_lemma => kernel_rfl) (by as_aux_lemma => kernel_rfl) (by as_aux_lemma => kernel_rfl) (fun _ _ _ _ hh => hh) (fun w h => by first | exact r_move h rfl) rfl ?_
    clear hD h a w; intro a w h hD
    refine d_take (listed' := #[true, true, true, true, true, true, true, false, false, false, false, false, false, false, false, false, false]) h hD 6 _ (by as_aux_lemma => kernel_rfl) rfl (by as_aux_lemma => kernel_rfl) (by as_aux_lemma => kernel_rfl) (by as_aux_lemma => kernel_rfl) (fun _ _ _ _ hh => hh) h.2 (fun w hw => by first | exact r_elP ⟨h.1, hw⟩ rfl rfl K.u_S_api_Key K.sz_api_Key (by first | exact Views.own 0 rfl | exact Views.own 1 rfl | exact Views.own 2 rfl | exact Views.own 3 rfl | exact Views.own 4 rfl | exact Views.own 5 rfl | assumption | exact Views.of_drop 1 (by assumption) | exact Views.of_drop 2 (by assumption) | exact Views.of_drop 3 (by assumption) | exact Views.of_drop 4 (by assumption) | exact Views.of_drop 5 (by assumption) | exact Views.of_drop 6 (by assumption) | exact Views.of_drop 7 (by assumption) | exact Views.of_drop 8 (by assumption) | exact Views.of_drop 9 (by assumption) | exact Views.of_drop 10 (by assumption) | exact Views.of_drop 11 (by assumption) | exact Views.of_drop 12 (by assumption)) (by first | omega | (simp; done)) (by first | omega | (simp only [List.length_cons, List.length_nil]; omega) | (simp; done) | (simp; omega))) rfl ?_
    clear hD h a w; intro a w h hD
    refine d_take (listed' := #[true, true, true, true, true, true, true, true, false, false, false, false, false, false, false, false, false]) h hD 7 _ (by as_aux_lemma => kernel_rfl) rfl (by as_aux_lemma => kernel_rfl) (by as_aux_lemma => kernel_rfl) (by as_aux_lemma => kernel_rfl) (fun _ _ _ _ hh => hh) h.2 (fun w hw => by first | exact r_elM (cells := cellsA) ⟨h.1, hw⟩ rfl K.u_api_Key rfl K.sz_api_Key rfl (Views.own 0 rfl) hk1) rfl ?_
    clear hD h a w; intro a w h hD
    refine d_two (listed' := #[true, true, true, true, true, true, true, true, true, false, false, false, false, false, false, false, false]) (listed2 := #[true, true, true, true, true, true, true, true, false, false, false, false, false, true, false, false, false]) 8 13 [false, true, false, true] [true, true, true, true] (by as_aux_lemma => kernel_rfl) (by as_aux_lemma => kernel_rfl) rfl rfl rfl rfl (by as_aux_lemma => kernel_rfl) (by as_aux_lemma => kernel_rfl) (by as_aux_lemma => kernel_rfl) ?_ ?_
    ·
     refine op_call h rfl K.go_graph_Base (g_Base s _ b tw0 tw1 nv xs _ (al (nsOf xs)) hall (by first | exact BookV.mk 1 2 3 rfl rfl rfl | exact BookV.mk 2 3 4 rfl rfl rfl) (by omega) hp h.2) rfl ?_
     clear hD h a w; intro x a w hx h
     (try simp only [List.set_cons_zero, List.set_cons_succ] at h)
     rw [hz, tw_base] at h
     refine d_pay (Paid.cons (by first | exact h.2 | exact h.2.drop 1 | exact h.2.drop 2 | exact h.2.drop 3 | exact h.2.drop 4 | exact h.2.drop 5 | exact h.2.drop 6 | exact h.2.drop 7) (Paid.cons (by first | exact h.2 | exact h.2.drop 1 | exact h.2.drop 2 | exact h.2.drop 3 | exact h.2.drop 4 | exact h.2.drop 5 | exact h.2.drop 6 | exact h.2.drop 7) (Paid.nil))) (fun hD => ?_)
     refine d_take0 (listed' := #[true, true, true, true, true, true, true, true, true, true, false, false, false, false, false, false, false]) h hD 9 (by as_aux_lemma => kernel_rfl) rfl (by as_aux_lemma => kernel_rfl) (by as_aux_lemma => kernel_rfl) (by as_aux_lemma => kernel_rfl) (fun _ _ _ _ hh => hh) (fun w h => by first | exact r_move h rfl) rfl ?_
     clear hD h a w; intro a w h hD
     refine d_take0 (listed' := #[true, true, true, true, true, true, true, true, true, true, true, false, false, false, false, false, false]) h hD 10 (by as_aux_lemma => kernel_rfl) rfl (by as_aux_lemma => kernel_rfl) (by as_aux_lemma => kernel_rfl) (by as_aux_lemma => kernel_rfl) (fun _ _ _ _ hh => hh) (fun w h => by first | exact r_extractN h rfl rfl) rfl ?_
     clear hD h a w; intro a w h hD
     refine d_take0 (listed' := #[true, true, true, true, true, true, true, true, true, true, true, true, false, false, false, false, false]) h hD 11 (by as_aux_lemma => kernel_rfl) rfl (by as_aux_lemma => kernel_rfl) (by as_aux_lemma => kernel_rfl) (by as_aux_lemma => kernel_rfl) (fun _ _ _ _ hh => hh) (fun w h => by first | exact r_extractN h rfl rfl) rfl ?_
     clear hD h a w; intro a w h hD
     refine d_take0 (listed' := #[true, true, true, true, true, true, true, true, true, true, true, true, true, false, false, false, false]) h hD 12 (by as_aux_lemma => kernel_rfl) rfl (by as_aux_lemma => kernel_rfl) (by as_aux_lemma => kernel_rfl) (by as_aux_lemma => kernel_rfl) (fun _ _ _ _ hh => hh) (fun w h => by first | exact r_extractN h rfl rfl) rfl ?_
     clear hD h a w; intro a w h hD
     refine d_only (listed' := #[true, true, true, true, true, true, true, true, true, true, true, true, true, true, false, false, false]) 13 [true, true] (by as_aux_lemma => kernel_rfl) rfl rfl (by as_aux_lemma => kernel_rfl) (by as_aux_lemma => kernel_rfl) ?_
     refine op_alloc h K.z_api_Key rfl ?_
     clear hD h a w; intro b3 a w h
     rw [show (Value.agg (Array.replicate 32 (Value.int .u8 0))).cells = arr8 (List.replicate 32 0) from (arr8_zero 32).symm] at h
     refine d_pay (Paid.cons (by first | exact h.2 | exact h.2.drop 1 | exact h.2.drop 2 | exact h.2.drop 3 | exact h.2.drop 4 | exact h.2.drop 5 | exact h.2.drop 6 | exact h.2.drop 7) (Paid.cons (by first | exact h.2 | exact h.2.drop 1 | exact h.2.drop 2 | exact h.2.drop 3 | exact h.2.drop 4 | exact h.2.drop 5 | exact h.2.drop 6 | exact h.2.drop 7) (Paid.nil))) (fun hD => ?_)
     refine d_only (listed' := #[true, true, true, true, true, true, true, true, true, true, true, true, true, true, true, false, false]) 14 [false, false] (by as_aux_lemma => kernel_rfl) rfl rfl (by as_aux_lemma => kernel_rfl) (by as_aux_lemma => kernel_rfl) ?_
     first
          | (refine op_storeA8 h rfl rfl K.sz_api_Key (by first | rfl | assumption | (simp; done) | (simp; omega) | omega) 0 rfl (by first | rfl | (simp [arr8]; done) | (simp [arr8]; omega) | (simp [arr8]; assumption)) ?_)
          | (refine op_storeA8 h rfl rfl K.sz_api_Key (by first | rfl | assumption | (simp; done) | (simp; omega) | omega) 1 rfl (by first | rfl | (simp [arr8]; done) | (simp [arr8]; omega) | (simp [arr8]; assumption)) ?_)
          | (refine op_storeA8 h rfl rfl K.sz_api_Key (by first | rfl | assumption | (simp; done) | (simp; omega) | omega) 2 rfl (by first | rfl | (simp [arr8]; done) | (simp [arr8]; omega) | (simp [arr8]; assumption)) ?_)
          | (refine op_storeA8 h rfl rfl K.sz_api_Key (by first | rfl | assumption | (simp; done) | (simp; omega) | omega) 3 rfl (by first | rfl | (simp [arr8]; done) | (simp [arr8]; omega) | (simp [arr8]; assumption)) ?_)
          | (refine op_storeA8 h rfl rfl K.sz_api_Key (by first | rfl | assumption | (simp; done) | (simp; omega) | omega) 4 rfl (by first | rfl | (simp [arr8]; done) | (simp [arr8]; omega) | (simp [arr8]; assumption)) ?_)
          | (refine op_storeA8 h rfl rfl K.sz_api_Key (by first | rfl | assumption | (simp; done) | (simp; omega) | omega) 5 rfl (by first | rfl | (simp [arr8]; done) | (simp [arr8]; omega) | (simp [arr8]; assumption)) ?_)
     clear hD h a w; intro a w h
     (try simp only [List.set_cons_zero, List.set_cons_succ] at h)
     refine d_pay (Paid.nil) (fun hD => ?_)
     refine d_take0 (listed' := #[true, true, true, true, true, true, true, true, true, true, true, true, true, true, true, true, false]) h hD 15 (by as_aux_lemma => kernel_rfl) rfl (by as_aux_lemma => kernel_rfl) (by as_aux_lemma => kernel_rfl) (by as_aux_lemma => kernel_rfl) (fun _ _ _ _ hh => hh) (fun w h => by first | exact r_assign h rfl) rfl ?_
     clear hD h a w; intro a w h hD
     refine d_take0 (listed' := #[true, true, true, true, true, true, true, true, true, true, true, true, true, true, true, true, true]) h hD 16 (by as_aux_lemma => kernel_rfl) rfl (by as_aux_lemma => kernel_rfl) (by as_aux_lemma => kernel_rfl) (by as_aux_lemma => kernel_rfl) (fun _ _ _ _ hh => hh) (fun w h => by first | exact r_assign h rfl) rfl ?_
     clear hD h a w; intro a w h hD
     refine d_done (by kernel_rfl) ?_
     clear hD
     refine c_then ?_
     exact ⟨_, ⟨(h.keep [2, 3, 4, 5]).1, (by have q := h.2; replace q := (q.front 2 rfl).tail; replace q := (q.front 2 rfl).tail; replace q := (q.front 2 rfl).tail; replace q := (q.front 2 rfl).tail; exact q)⟩, trivial⟩
    ·
     refine op_alloc h K.z_api_Key rfl ?_
     clear hD h a w; intro b3 a w h
     rw [show (Value.agg (Array.replicate 32 (Value.int .u8 0))).cells = arr8 (List.replicate 32 0) from (arr8_zero 32).symm] at h
     refine d_pay (Paid.cons (by first | exact h.2 | exact h.2.drop 1 | exact h.2.drop 2 | exact h.2.drop 3 | exact h.2.drop 4 | exact h.2.drop 5 | exact h.2.drop 6 | exact h.2.drop 7) (Paid.cons (by first | exact h.2 | exact h.2.drop 1 | exact h.2.drop 2 | exact h.2.drop 3 | exact h.2.drop 4 | exact h.2.drop 5 | exact h.2.drop 6 | exact h.2.drop 7) (Paid.cons (by first | exact h.2 | exact h.2.drop 1 | exact h.2.drop 2 | exact h.2.drop 3 | exact h.2.drop 4 | exact h.2.drop 5 | exact h.2.drop 6 | exact h.2.drop 7) (Paid.cons (by first | exact h.2 | exact h.2.drop 1 | exact h.2.drop 2 | exact h.2.drop 3 | exact h.2.drop 4 | exact h.2.drop 5 | exact h.2.drop 6 | exact h.2.drop 7) (Paid.nil))))) (fun hD => ?_)
     refine d_only (listed' := #[true, true, true, true, true, true, true, true, true, false, false, false, false, true, false, false, false]) 8 [false, true, false, true] (by as_aux_lemma => kernel_rfl) rfl rfl (by as_aux_lemma => kernel_rfl) (by as_aux_lemma => kernel_rfl) ?_
     refine op_call h rfl K.go_graph_Base (g_Base s _ b tw0 tw1 nv xs _ (al (nsOf xs)) hall (by first | exact BookV.mk 1 2 3 rfl rfl rfl | exact BookV.mk 2 3 4 rfl rfl rfl) (by omega) hp h.2) rfl ?_
     clear hD h a w; intro x a w hx h
     (try simp only [List.set_cons_zero, List.set_cons_succ] at h)
     rw [hz, tw_base] at h
     refine d_pay (Paid.cons (by first | exact h.2 | exact h.2.drop 1 | exact h.2.drop 2 | exact h.2.drop 3 | exact h.2.drop 4 | exact h.2.drop 5 | exact h.2.drop 6 | exact h.2.drop 7) (Paid.cons (by first | exact h.2 | exact h.2.drop 1 | exact h.2.drop 2 | exact h.2.drop 3 | exact h.2.drop 4 | exact h.2.drop 5 | exact h.2.drop 6 | exact h.2.drop 7) (Paid.nil))) (fun hD => ?_)
     refine d_take0 (listed' := #[true, true, true, true, true, true, true, true, true, true, false, false, false, true, false, false, false]) h hD 9 (by as_aux_lemma => kernel_rfl) rfl (by as_aux_lemma => kernel_rfl) (by as_aux_lemma => kernel_rfl) (by as_aux_lemma => kernel_rfl) (fun _ _ _ _ hh => hh) (fun w h => by first | exact r_move h rfl) rfl ?_
     clear hD h a w; intro a w h hD
     refine d_take0 (listed' := #[true, true, true, true, true, true, true, true, true, true, true, false, false, true, false, false, false]) h hD 10 (by as_aux_lemma => kernel_rfl) rfl (by as_aux_lemma => kernel_rfl) (by as_aux_lemma => kernel_rfl) (by as_aux_lemma => kernel_rfl) (fun _ _ _ _ hh => hh) (fun w h => by first | exact r_extractN h rfl rfl) rfl ?_
     clear hD h a w; intro a w h hD
     refine d_take0 (listed' := #[true, true, true, true, true, true, true, true, true, true, true, true, false, true, false, false, false]) h hD 11 (by as_aux_lemma => kernel_rfl) rfl (by as_aux_lemma => kernel_rfl) (by as_aux_lemma => kernel_rfl) (by as_aux_lemma => kernel_rfl) (fun _ _ _ _ hh => hh) (fun w h => by first | exact r_extractN h rfl rfl) rfl ?_
     clear hD h a w; intro a w h hD
     refine d_take0 (listed' := #[true, true, true, true, true, true, true, true, true, true, true, true, true, true, false, false, false]) h hD 12 (by as_aux_lemma => kernel_rfl) rfl (by as_aux_lemma => kernel_rfl) (by as_aux_lemma => kernel_rfl) (by as_aux_lemma => kernel_rfl) (fun _ _ _ _ hh => hh) (fun w h => by first | exact r_extractN h rfl rfl) rfl ?_
     clear hD h a w; intro a w h hD
     refine d_only (listed' := #[true, true, true, true, true, true, true, true, true, true, true, true, true, true, true, false, false]) 14 [false, false] (by as_aux_lemma => kernel_rfl) rfl rfl (by as_aux_lemma => kernel_rfl) (by as_aux_lemma => kernel_rfl) ?_
     first
          | (refine op_storeA8 h rfl rfl K.sz_api_Key (by first | rfl | assumption | (simp; done) | (simp; omega) | omega) 0 rfl (by first | rfl | (simp [arr8]; done) | (simp [arr8]; omega) | (simp [arr8]; assumption)) ?_)
          | (refine op_storeA8 h rfl rfl K.sz_api_Key (by first | rfl | assumption | (simp; done) | (simp; omega) | omega) 1 rfl (by first | rfl | (simp [arr8]; done) | (simp [arr8]; omega) | (simp [arr8]; assumption)) ?_)
          | (refine op_storeA8 h rfl rfl K.sz_api_Key (by first | rfl | assumption | (simp; done) | (simp; omega) | omega) 2 rfl (by first | rfl | (simp [arr8]; done) | (simp [arr8]; omega) | (simp [arr8]; assumption)) ?_)
          | (refine op_storeA8 h rfl rfl K.sz_api_Key (by first | rfl | assumption | (simp; done) | (simp; omega) | omega) 3 rfl (by first | rfl | (simp [arr8]; done) | (simp [arr8]; omega) | (simp [arr8]; assumption)) ?_)
          | (refine op_storeA8 h rfl rfl K.sz_api_Key (by first | rfl | assumption | (simp; done) | (simp; omega) | omega) 4 rfl (by first | rfl | (simp [arr8]; done) | (simp [arr8]; omega) | (simp [arr8]; assumption)) ?_)
          | (refine op_storeA8 h rfl rfl K.sz_api_Key (by first | rfl | assumption | (simp; done) | (simp; omega) | omega) 5 rfl (by first | rfl | (simp [arr8]; done) | (simp [arr8]; omega) | (simp [arr8]; assumption)) ?_)
     clear hD h a w; intro a w h
     (try simp only [List.set_cons_zero, List.set_cons_succ] at h)
     refine d_pay (Paid.nil) (fun hD => ?_)
     refine d_take0 (listed' := #[true, true, true, true, true, true, true, true, true, true, true, true, true, true, true, true, false]) h hD 15 (by as_aux_lemma => kernel_rfl) rfl (by as_aux_lemma => kernel_rfl) (by as_aux_lemma => kernel_rfl) (by as_aux_lemma => kernel_rfl) (fun _ _ _ _ hh => hh) (fun w h => by first | exact r_assign h rfl) rfl ?_
     clear hD h a w; intro a w h hD
     refine d_take0 (listed' := #[true, true, true, true, true, true, true, true, true, true, true, true, true, true, true, true, true]) h hD 16 (by as_aux_lemma => kernel_rfl) rfl (by as_aux_lemma => kernel_rfl) (by as_aux_lemma => kernel_rfl) (by as_aux_lemma => kernel_rfl) (fun _ _ _ _ hh => hh) (fun w h => by first | exact r_assign h rfl) rfl ?_
     clear hD h a w; intro a w h hD
     refine d_done (by kernel_rfl) ?_
     clear hD
     refine c_then ?_
     exact ⟨_, ⟨(h.keep [2, 3, 4, 5]).1, (by have q := h.2; replace q := (q.front 2 rfl).tail; replace q := (q.front 2 rfl).tail; replace q := (q.front 2 rfl).tail; replace q := (q.front 2 rfl).tail; exact q)⟩, trivial⟩
  ·
   clear h a w; intro z a w hz h
   refine c_seq (c_draw K.mixed (by kernel_rfl) h ?_)
   clear h a w; intro a hE
   refine qv hE (fun w hw => r_move ⟨hE, hw⟩ rfl) rfl ?_
   clear hE a; intro a hE
   refine qv hE (fun w hw => r_move ⟨hE, hw⟩ rfl) rfl ?_
   clear hE a; intro a hE
   refine qvG hE (by first | exact .t rfl | exact .f rfl | exact .gt rfl | exact .gf rfl) (fun hg w hw => by (try simp only [↓gval_on hg, ↓gval_and hg] at hE); (have hg2 := hg; (try simp only [Bool.and_eq_true, Bool.or_eq_true, Bool.not_eq_true', decide_eq_true_eq, decide_eq_false_iff_not] at hg2)); first | exact r_move ⟨hE, hw⟩ rfl) rfl ?_
   clear hE a; intro a hE
   refine qvG hE (by first | exact .t rfl | exact .f rfl | exact .gt rfl | exact .gf rfl) (fun hg w hw => by (try simp only [↓gval_on hg, ↓gval_and hg] at hE); (have hg2 := hg; (try simp only [Bool.and_eq_true, Bool.or_eq_true, Bool.not_eq_true', decide_eq_true_eq, decide_eq_false_iff_not] at hg2)); first | exact r_bin ⟨hE, hw⟩ rfl rfl (B.eql_int)) rfl ?_
   clear hE a; intro a hE
   first
      | (refine qv hE (fun w hw => r_pickA ⟨hE, hw⟩ rfl rfl rfl) rfl ?_)
      | (refine qv hE (fun w hw => r_pickO ⟨hE, hw⟩ rfl rfl rfl) rfl ?_)
      | (refine qv hE (fun w hw => r_pick_true ⟨hE, hw⟩ rfl rfl) rfl ?_)
      | (refine qv hE (fun w hw => r_pick_false ⟨hE, hw⟩ rfl rfl) rfl ?_)
      | (refine qv hE (fun w hw => r_pick ⟨hE, hw⟩ rfl rfl rfl) rfl ?_)
   clear hE a; intro a hE
   refine qv hE (fun w hw => r_move ⟨hE, hw⟩ rfl) rfl ?_
   clear hE a; intro a hE
   refine qvG hE (by first | exact .t rfl | exact .f rfl | exact .gt rfl | exact .gf rfl) (fun hg w hw => by (try simp only [↓gval_on hg, ↓gval_and hg] at hE); (have hg2 := hg; (try simp only [Bool.and_eq_true, Bool.or_eq_true, Bool.not_eq_true', decide_eq_true_eq, decide_eq_false_iff_not] at hg2)); first | exact r_loadA8 ⟨hE, hw⟩ rfl K.u_api_Key rfl K.sz_api_Key 0 rfl (by first | rfl | assumption | (simp; done) | (simp; omega) | omega) | exact r_loadA8 ⟨hE, hw⟩ rfl K.u_api_Key rfl K.sz_api_Key 1 rfl (by first | rfl | assumption | (simp; done) | (simp; omega) | omega) | exact r_loadA8 ⟨hE, hw⟩ rfl K.u_api_Key rfl K.sz_api_Key 2 rfl (by first | rfl | assumption | (simp; done) | (simp; omega) | omega) | exact r_loadA8 ⟨hE, hw⟩ rfl K.u_api_Key rfl K.sz_api_Key 3 rfl (by first | rfl | assumption | (simp; done) | (simp; omega) | omega) | exact r_loadA8 ⟨hE, hw⟩ rfl K.u_api_Key rfl K.sz_api_Key 4 rfl (by first | rfl | assumption | (simp; done) | (simp; omega) | omega) | exact r_loadA8 ⟨hE, hw⟩ rfl K.u_api_Key rfl K.sz_api_Key 5 rfl (by first | rfl | assumption | (simp; done) | (simp; omega) | omega) | exact r_loadCA ⟨hE, hw⟩ rfl K.u_api_Key rfl K.sz_api_Key (by assumption) (by first | rfl | assumption | (simp; done) | (simp; omega) | omega)) rfl ?_
   clear hE a; intro a hE
   refine qvG hE (by first | exact .t rfl | exact .f rfl | exact .gt rfl | exact .gf rfl) (fun hg w hw => by (try simp only [↓gval_on hg, ↓gval_and hg] at hE); (have hg2 := hg; (try simp only [Bool.and_eq_true, Bool.or_eq_true, Bool.not_eq_true', decide_eq_true_eq, decide_eq_false_iff_not] at hg2)); first | exact r_move ⟨hE, hw⟩ rfl) rfl ?_
   clear hE a; intro a hE
   refine qvG hE (by first | exact .t rfl | exact .f rfl | exact .gt rfl | exact .gf rfl) (fun hg w hw => by (try simp only [↓gval_on hg, ↓gval_and hg] at hE); (have hg2 := hg; (try simp only [Bool.and_eq_true, Bool.or_eq_true, Bool.not_eq_true', decide_eq_true_eq, decide_eq_false_iff_not] at hg2)); first | exact r_elP ⟨hE, hw⟩ rfl rfl K.u_S_api_Key K.sz_api_Key (by first | exact Views.own 0 rfl | exact Views.own 1 rfl | exact Views.own 2 rfl | exact Views.own 3 rfl | exact Views.own 4 rfl | exact Views.own 5 rfl | assumption | exact Views.of_drop 1 (by assumption) | exact Views.of_drop 2 (by assumption) | exact Views.of_drop 3 (by assumption) | exact Views.of_drop 4 (by assumption) | exact Views.of_drop 5 (by assumption) | exact Views.of_drop 6 (by assumption) | exact Views.of_drop 7 (by assumption) | exact Views.of_drop 8 (by assumption) | exact Views.of_drop 9 (by assumption) | exact Views.of_drop 10 (by assumption) | exact Views.of_drop 11 (by assumption) | exact Views.of_drop 12 (by assumption)) (by first | omega | (simp; done)) (by first | omega | (simp only [List.length_cons, List.length_nil]; omega) | (simp; done) | (simp; omega))) rfl ?_
   clear hE a; intro a hE
   refine qvG hE (by first | exact .t rfl | exact .f rfl | exact .gt rfl | exact .gf rfl) (fun hg w hw => by (try simp only [↓gval_on hg, ↓gval_and hg] at hE); exact r_elM (cells := cellsA) ⟨hE, hw⟩ rfl K.u_api_Key rfl K.sz_api_Key rfl (Views.own 1 rfl) hk0) rfl ?_
   clear hE a; intro a hE
   refine qvG hE (by first | exact .t rfl | exact .f rfl | exact .gt rfl | exact .gf rfl) (fun hg w hw => by (try simp only [↓gval_on hg, ↓gval_and hg] at hE); (have hg2 := hg; (try simp only [Bool.and_eq_true, Bool.or_eq_true, Bool.not_eq_true', decide_eq_true_eq, decide_eq_false_iff_not] at hg2)); first | exact r_arreq ⟨hE, hw⟩ rfl rfl K.u_api_Key K.u_uint8 K.sz_uint8 (by kernel_rfl) (by first | rfl | assumption | (simp; done) | (simp; omega) | omega) (by first | rfl | assumption | (simp; done) | (simp; omega) | omega)) rfl ?_
   clear hE a; intro a hE
   first
      | (refine qv hE (fun w hw => r_pickA ⟨hE, hw⟩ rfl rfl rfl) rfl ?_)
      | (refine qv hE (fun w hw => r_pickO ⟨hE, hw⟩ rfl rfl rfl) rfl ?_)
      | (refine qv hE (fun w hw => r_pick_true ⟨hE, hw⟩ rfl rfl) rfl ?_)
      | (refine qv hE (fun w hw => r_pick_false ⟨hE, hw⟩ rfl rfl) rfl ?_)
      | (refine qv hE (fun w hw => r_pick ⟨hE, hw⟩ rfl rfl rfl) rfl ?_)
   clear hE a; intro a hE
   refine qv hE (fun w hw => r_assign ⟨hE, hw⟩ rfl) rfl ?_
   clear hE a; intro a hE
   refine qnil hE ?_
   clear hE a; intro a w h
   refine c_then ?_
   refine c_ret ?_
   exact ret1 h rfl rfl ⟨(), by simp, h.2.drop 2, trivial⟩
end Go.Proofs.K
