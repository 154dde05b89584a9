/- The contracts of package graph: its queue, put and each. -/
import Derived.Test.YtnplbpmdehcknaaTab
import Derived.Test.YtnplbpmdehcknaaGraphPure
import Derived.Test.YtnplbpmdehcknaaRound
import Derived.Test.YtnplbpmdehcknaaKeySet
set_option linter.unusedVariables false
set_option linter.unusedSimpArgs false
set_option maxRecDepth 10000
set_option maxHeartbeats 2000000
namespace Go.Proofs.K
open Go.Sl
attribute [local irreducible] Go.Sl.Own Go.Sl.Blk Go.Sl.Sep Go.Sl.Ex Go.Sl.Fact
abbrev gp (b : Nat) : Value := .pointer (some ⟨b, 0, none⟩)

/-- a queue: its block, its row -/
def QL (b : Nat) (v : Value) (q : List Key) : List HItem := [Blk b (.cells ⟨[v]⟩ t_graph_queue_api_Key), OwnM 32 cellsA v q]
def QI (b : Nat) (q : List Key) : HItem := Ex fun v : Value => Sep (QL b v q)
theorem QI_open {s w : World} {b : Nat} {q : List Key} {F : List HItem} (h : Sat s w (QI b q :: F)) : ∃ v, Sat s w (QL b v q ++ F) := by
  obtain ⟨v, h⟩ := h.unex
  exact ⟨v, h.unsep⟩
theorem QI_shut {s w : World} {b : Nat} {q : List Key} {F : List HItem} {v : Value} (h : Sat s w (QL b v q ++ F)) : Sat s w (QI b q :: F) := Sat.ex v (Sat.sep h)

theorem q_put (s w : World) (b : Nat) (q : List Key) (k : Key) (F : List HItem) (hq : q.length ≤ 4000000) (hs0 : Sat s w (QI b q :: F)) :
    Calls P n_graph_queue_api_Key_put #[gp b, keyV k] w (Ret s (fun _ : Unit => .tuple #[]) (fun _ => QI b (q ++ [k]) :: F) (fun _ => True)) := by
  obtain ⟨v, hs⟩ := QI_open hs0
  clear hs0
  refine enter K.fn_graph_queue_api_Key_put rfl K.nt_graph_queue_api_Key_put rfl hs ?_
  clear hs w; intro a w h
  unfold QL keyV at *
  refine c_seq (c_region ?_)
  refine wl rfl (op_box h rfl rfl ?_)
  clear h a w; intro b3 a w h
  try simp only [Value.cells] at h
  refine wnil (c_then ?_)
  refine c_drawn 11 K.mixed rfl h ?_
  clear h a w; intro a w h
  have hD : Paid s w [] := Paid.nil
  refine d_take0 (listed' := #[true, false, false, false, false, false, false, false, false, false, false]) h hD 0 (by as_aux_lemma => kernel_rfl) rfl (by as_aux_lemma => kernel_rfl) (by as_aux_lemma => kernel_rfl) (by as_aux_lemma => kernel_rfl) (fun _ _ _ _ hh => hh) (fun w h => by first | exact r_move h rfl) rfl ?_
  clear hD h a w; intro a w h hD
  refine d_take0 (listed' := #[true, true, false, false, false, false, false, false, false, false, false]) h hD 1 (by as_aux_lemma => kernel_rfl) rfl (by as_aux_lemma => kernel_rfl) (by as_aux_lemma => kernel_rfl) (by as_aux_lemma => kernel_rfl) (fun _ _ _ _ hh => hh) (fun w h => by first | exact r_move h rfl) rfl ?_
  clear hD h a w; intro a w h hD
  refine d_take0 (listed' := #[true, true, true, false, false, false, false, false, false, false, false]) h hD 2 (by as_aux_lemma => kernel_rfl) rfl (by as_aux_lemma => kernel_rfl) (by as_aux_lemma => kernel_rfl) (by as_aux_lemma => kernel_rfl) (fun _ _ _ _ hh => hh) (fun w h => by first | exact r_nilCheck h rfl) rfl ?_
  clear hD h a w; intro a w h hD
  refine d_take0 (listed' := #[true, true, true, true, false, false, false, false, false, false, false]) h hD 3 (by as_aux_lemma => kernel_rfl) rfl (by as_aux_lemma => kernel_rfl) (by as_aux_lemma => kernel_rfl) (by as_aux_lemma => kernel_rfl) (fun _ _ _ _ hh => hh) (fun w h => by first | exact r_fieldAddr0 h rfl K.u_graph_queue_api_Key rfl K.sz_S_api_Key rfl rfl) rfl ?_
  clear hD h a w; intro a w h hD
  refine d_take (listed' := #[true, true, true, true, true, false, false, false, false, false, false]) h hD 4 _ (by as_aux_lemma => kernel_rfl) rfl (by as_aux_lemma => kernel_rfl) (by as_aux_lemma => kernel_rfl) (by as_aux_lemma => kernel_rfl) (fun _ _ _ _ hh => hh) h.2 (fun w hw => by first | exact r_ldN ⟨h.1, hw⟩ rfl K.u_S_api_Key rfl 0 rfl rfl | exact r_ldN ⟨h.1, hw⟩ rfl K.u_S_api_Key rfl 1 rfl rfl | exact r_ldN ⟨h.1, hw⟩ rfl K.u_S_api_Key rfl 2 rfl rfl | exact r_ldN ⟨h.1, hw⟩ rfl K.u_S_api_Key rfl 3 rfl rfl | exact r_ldN ⟨h.1, hw⟩ rfl K.u_S_api_Key rfl 4 rfl rfl | exact r_ldN ⟨h.1, hw⟩ rfl K.u_S_api_Key rfl 5 rfl rfl | exact r_ldN ⟨h.1, hw⟩ rfl K.u_S_api_Key rfl 6 rfl rfl | exact r_ldC (o := 0) ⟨h.1, hw⟩ rfl K.u_S_api_Key rfl 0 rfl | exact r_ldC (o := 0) ⟨h.1, hw⟩ rfl K.u_S_api_Key rfl 1 rfl | exact r_ldC (o := 0) ⟨h.1, hw⟩ rfl K.u_S_api_Key rfl 2 rfl | exact r_ldC (o := 0) ⟨h.1, hw⟩ rfl K.u_S_api_Key rfl 3 rfl | exact r_ldC (o := 0) ⟨h.1, hw⟩ rfl K.u_S_api_Key rfl 4 rfl | exact r_ldC (o := 0) ⟨h.1, hw⟩ rfl K.u_S_api_Key rfl 5 rfl | exact r_ldC (o := 0) ⟨h.1, hw⟩ rfl K.u_S_api_Key rfl 6 rfl | exact r_load ⟨h.1, hw⟩ rfl K.u_S_api_Key rfl 0 rfl rfl | exact r_load ⟨h.1, hw⟩ rfl K.u_S_api_Key rfl 1 rfl rfl | exact r_load ⟨h.1, hw⟩ rfl K.u_S_api_Key rfl 2 rfl rfl | exact r_load ⟨h.1, hw⟩ rfl K.u_S_api_Key rfl 3 rfl rfl | exact r_load ⟨h.1, hw⟩ rfl K.u_S_api_Key rfl 4 rfl rfl | exact r_load ⟨h.1, hw⟩ rfl K.u_S_api_Key rfl 5 rfl rfl | exact r_load1 ⟨h.1, hw⟩ rfl K.u_S_api_Key rfl (by assumption)) rfl ?_
  clear hD h a w; intro a w h hD
  refine d_take (listed' := #[true, true, true, true, true, true, false, false, false, false, false]) h hD 5 _ (by as_aux_lemma => kernel_rfl) rfl (by as_aux_lemma => kernel_rfl) (by as_aux_lemma => kernel_rfl) (by as_aux_lemma => kernel_rfl) (fun _ _ _ _ hh => hh) h.2 (fun w hw => by first | exact r_loadA8 ⟨h.1, hw⟩ rfl K.u_api_Key rfl K.sz_api_Key 0 rfl (by first | rfl | assumption | (simp; done) | (simp; omega) | omega) | exact r_loadA8 ⟨h.1, hw⟩ rfl K.u_api_Key rfl K.sz_api_Key 1 rfl (by first | rfl | assumption | (simp; done) | (simp; omega) | omega) | exact r_loadA8 ⟨h.1, hw⟩ rfl K.u_api_Key rfl K.sz_api_Key 2 rfl (by first | rfl | assumption | (simp; done) | (simp; omega) | omega) | exact r_loadA8 ⟨h.1, hw⟩ rfl K.u_api_Key rfl K.sz_api_Key 3 rfl (by first | rfl | assumption | (simp; done) | (simp; omega) | omega) | exact r_loadA8 ⟨h.1, hw⟩ rfl K.u_api_Key rfl K.sz_api_Key 4 rfl (by first | rfl | assumption | (simp; done) | (simp; omega) | omega) | exact r_loadA8 ⟨h.1, hw⟩ rfl K.u_api_Key rfl K.sz_api_Key 5 rfl (by first | rfl | assumption | (simp; done) | (simp; omega) | omega) | exact r_loadCA ⟨h.1, hw⟩ rfl K.u_api_Key rfl K.sz_api_Key (by assumption) (by first | rfl | assumption | (simp; done) | (simp; omega) | omega)) rfl ?_
  clear hD h a w; intro a w h hD
  refine d_only (listed' := #[true, true, true, true, true, true, true, false, false, false, false]) 6 [false, true] (by as_aux_lemma => kernel_rfl) rfl rfl (by as_aux_lemma => kernel_rfl) (by as_aux_lemma => kernel_rfl) ?_
  refine op_build1 h K.u_S_api_Key K.sz_api_Key K.z_api_Key rfl rfl rfl (by first | exact Row.len _ | rfl | assumption | (simp; done) | (simp; omega) | omega) rfl ?_
  clear hD h a w; intro b10 a w h
  refine d_pay (Paid.cons (by first | exact h.2 | exact h.2.drop 1 | exact h.2.drop 2 | exact h.2.drop 3 | exact h.2.drop 4 | exact h.2.drop 5 | exact h.2.drop 6 | exact h.2.drop 7) (Paid.nil)) (fun hD => ?_)
  refine d_only (listed' := #[true, true, true, true, true, true, true, true, false, false, false]) 7 [false] (by as_aux_lemma => kernel_rfl) rfl rfl (by as_aux_lemma => kernel_rfl) (by as_aux_lemma => kernel_rfl) ?_
  first
    | (refine op_appendR1 (cells := cellsA) h rfl rfl K.u_S_api_Key K.sz_api_Key K.z_api_Key rfl rfl 0 rfl (by first | omega | (simp only [List.length_cons, List.length_nil]; omega) | (simp; done) | (simp; omega)) rfl ?_)
    | (refine op_appendR1 (cells := cellsA) h rfl rfl K.u_S_api_Key K.sz_api_Key K.z_api_Key rfl rfl 1 rfl (by first | omega | (simp only [List.length_cons, List.length_nil]; omega) | (simp; done) | (simp; omega)) rfl ?_)
    | (refine op_appendR1 (cells := cellsA) h rfl rfl K.u_S_api_Key K.sz_api_Key K.z_api_Key rfl rfl 2 rfl (by first | omega | (simp only [List.length_cons, List.length_nil]; omega) | (simp; done) | (simp; omega)) rfl ?_)
    | (refine op_appendR1 (cells := cellsA) h rfl rfl K.u_S_api_Key K.sz_api_Key K.z_api_Key rfl rfl 3 rfl (by first | omega | (simp only [List.length_cons, List.length_nil]; omega) | (simp; done) | (simp; omega)) rfl ?_)
    | (refine op_appendR1 (cells := cellsA) h rfl rfl K.u_S_api_Key K.sz_api_Key K.z_api_Key rfl rfl 4 rfl (by first | omega | (simp only [List.length_cons, List.length_nil]; omega) | (simp; done) | (simp; omega)) rfl ?_)
    | (refine op_appendR1 (cells := cellsA) h rfl rfl K.u_S_api_Key K.sz_api_Key K.z_api_Key rfl rfl 5 rfl (by first | omega | (simp only [List.length_cons, List.length_nil]; omega) | (simp; done) | (simp; omega)) rfl ?_)
  clear hD h a w; intro v11 a w h
  (try simp only [List.set_cons_zero, List.set_cons_succ] at h)
  refine d_pay (Paid.nil) (fun hD => ?_)
  refine d_take0 (listed' := #[true, true, true, true, true, true, true, true, true, false, false]) h hD 8 (by as_aux_lemma => kernel_rfl) rfl (by as_aux_lemma => kernel_rfl) (by as_aux_lemma => kernel_rfl) (by as_aux_lemma => kernel_rfl) (fun _ _ _ _ hh => hh) (fun w h => by first | exact r_nilCheck h rfl) rfl ?_
  clear hD h a w; intro a w h hD
  refine d_take0 (listed' := #[true, true, true, true, true, true, true, true, true, true, false]) h hD 9 (by as_aux_lemma => kernel_rfl) rfl (by as_aux_lemma => kernel_rfl) (by as_aux_lemma => kernel_rfl) (by as_aux_lemma => kernel_rfl) (fun _ _ _ _ hh => hh) (fun w h => by first | exact r_fieldAddr0 h rfl K.u_graph_queue_api_Key rfl K.sz_S_api_Key rfl rfl) rfl ?_
  clear hD h a w; intro a w h hD
  refine d_only (listed' := #[true, true, true, true, true, true, true, true, true, true, true]) 10 [] (by as_aux_lemma => kernel_rfl) rfl rfl (by as_aux_lemma => kernel_rfl) (by as_aux_lemma => kernel_rfl) ?_
  first
    | (refine op_storeN h rfl rfl K.sz_S_api_Key (by first | rfl | assumption | exact Views.oneCell (Views.own 0 rfl) h.2 | exact Views.oneCell (Views.own 1 rfl) h.2 | exact Views.oneCell (Views.own 2 rfl) h.2 | exact Views.oneCell (Views.own 3 rfl) h.2 | exact Views.oneCell (Views.own 4 rfl) h.2 | exact Views.oneCell (Views.own 5 rfl) h.2 | exact Views.oneCell (by assumption) h.2) 0 rfl rfl ?_)
    | (refine op_storeN h rfl rfl K.sz_S_api_Key (by first | rfl | assumption | exact Views.oneCell (Views.own 0 rfl) h.2 | exact Views.oneCell (Views.own 1 rfl) h.2 | exact Views.oneCell (Views.own 2 rfl) h.2 | exact Views.oneCell (Views.own 3 rfl) h.2 | exact Views.oneCell (Views.own 4 rfl) h.2 | exact Views.oneCell (Views.own 5 rfl) h.2 | exact Views.oneCell (by assumption) h.2) 1 rfl rfl ?_)
    | (refine op_storeN h rfl rfl K.sz_S_api_Key (by first | rfl | assumption | exact Views.oneCell (Views.own 0 rfl) h.2 | exact Views.oneCell (Views.own 1 rfl) h.2 | exact Views.oneCell (Views.own 2 rfl) h.2 | exact Views.oneCell (Views.own 3 rfl) h.2 | exact Views.oneCell (Views.own 4 rfl) h.2 | exact Views.oneCell (Views.own 5 rfl) h.2 | exact Views.oneCell (by assumption) h.2) 2 rfl rfl ?_)
    | (refine op_storeN h rfl rfl K.sz_S_api_Key (by first | rfl | assumption | exact Views.oneCell (Views.own 0 rfl) h.2 | exact Views.oneCell (Views.own 1 rfl) h.2 | exact Views.oneCell (Views.own 2 rfl) h.2 | exact Views.oneCell (Views.own 3 rfl) h.2 | exact Views.oneCell (Views.own 4 rfl) h.2 | exact Views.oneCell (Views.own 5 rfl) h.2 | exact Views.oneCell (by assumption) h.2) 3 rfl rfl ?_)
    | (refine op_storeN h rfl rfl K.sz_S_api_Key (by first | rfl | assumption | exact Views.oneCell (Views.own 0 rfl) h.2 | exact Views.oneCell (Views.own 1 rfl) h.2 | exact Views.oneCell (Views.own 2 rfl) h.2 | exact Views.oneCell (Views.own 3 rfl) h.2 | exact Views.oneCell (Views.own 4 rfl) h.2 | exact Views.oneCell (Views.own 5 rfl) h.2 | exact Views.oneCell (by assumption) h.2) 4 rfl rfl ?_)
    | (refine op_storeN h rfl rfl K.sz_S_api_Key (by first | rfl | assumption | exact Views.oneCell (Views.own 0 rfl) h.2 | exact Views.oneCell (Views.own 1 rfl) h.2 | exact Views.oneCell (Views.own 2 rfl) h.2 | exact Views.oneCell (Views.own 3 rfl) h.2 | exact Views.oneCell (Views.own 4 rfl) h.2 | exact Views.oneCell (Views.own 5 rfl) h.2 | exact Views.oneCell (by assumption) h.2) 5 rfl rfl ?_)
    | (refine op_storeN h rfl rfl K.sz_S_api_Key (by first | rfl | assumption | exact Views.oneCell (Views.own 0 rfl) h.2 | exact Views.oneCell (Views.own 1 rfl) h.2 | exact Views.oneCell (Views.own 2 rfl) h.2 | exact Views.oneCell (Views.own 3 rfl) h.2 | exact Views.oneCell (Views.own 4 rfl) h.2 | exact Views.oneCell (Views.own 5 rfl) h.2 | exact Views.oneCell (by assumption) h.2) 6 rfl rfl ?_)
    | (refine op_storeC (o := 0) h rfl rfl K.sz_S_api_Key (by first | rfl | assumption | exact Views.oneCell (Views.own 0 rfl) h.2 | exact Views.oneCell (Views.own 1 rfl) h.2 | exact Views.oneCell (Views.own 2 rfl) h.2 | exact Views.oneCell (Views.own 3 rfl) h.2 | exact Views.oneCell (Views.own 4 rfl) h.2 | exact Views.oneCell (Views.own 5 rfl) h.2 | exact Views.oneCell (by assumption) h.2) 0 rfl ?_)
    | (refine op_storeC (o := 0) h rfl rfl K.sz_S_api_Key (by first | rfl | assumption | exact Views.oneCell (Views.own 0 rfl) h.2 | exact Views.oneCell (Views.own 1 rfl) h.2 | exact Views.oneCell (Views.own 2 rfl) h.2 | exact Views.oneCell (Views.own 3 rfl) h.2 | exact Views.oneCell (Views.own 4 rfl) h.2 | exact Views.oneCell (Views.own 5 rfl) h.2 | exact Views.oneCell (by assumption) h.2) 1 rfl ?_)
    | (refine op_storeC (o := 0) h rfl rfl K.sz_S_api_Key (by first | rfl | assumption | exact Views.oneCell (Views.own 0 rfl) h.2 | exact Views.oneCell (Views.own 1 rfl) h.2 | exact Views.oneCell (Views.own 2 rfl) h.2 | exact Views.oneCell (Views.own 3 rfl) h.2 | exact Views.oneCell (Views.own 4 rfl) h.2 | exact Views.oneCell (Views.own 5 rfl) h.2 | exact Views.oneCell (by assumption) h.2) 2 rfl ?_)
    | (refine op_storeC (o := 0) h rfl rfl K.sz_S_api_Key (by first | rfl | assumption | exact Views.oneCell (Views.own 0 rfl) h.2 | exact Views.oneCell (Views.own 1 rfl) h.2 | exact Views.oneCell (Views.own 2 rfl) h.2 | exact Views.oneCell (Views.own 3 rfl) h.2 | exact Views.oneCell (Views.own 4 rfl) h.2 | exact Views.oneCell (Views.own 5 rfl) h.2 | exact Views.oneCell (by assumption) h.2) 3 rfl ?_)
    | (refine op_storeC (o := 0) h rfl rfl K.sz_S_api_Key (by first | rfl | assumption | exact Views.oneCell (Views.own 0 rfl) h.2 | exact Views.oneCell (Views.own 1 rfl) h.2 | exact Views.oneCell (Views.own 2 rfl) h.2 | exact Views.oneCell (Views.own 3 rfl) h.2 | exact Views.oneCell (Views.own 4 rfl) h.2 | exact Views.oneCell (Views.own 5 rfl) h.2 | exact Views.oneCell (by assumption) h.2) 4 rfl ?_)
    | (refine op_storeC (o := 0) h rfl rfl K.sz_S_api_Key (by first | rfl | assumption | exact Views.oneCell (Views.own 0 rfl) h.2 | exact Views.oneCell (Views.own 1 rfl) h.2 | exact Views.oneCell (Views.own 2 rfl) h.2 | exact Views.oneCell (Views.own 3 rfl) h.2 | exact Views.oneCell (Views.own 4 rfl) h.2 | exact Views.oneCell (Views.own 5 rfl) h.2 | exact Views.oneCell (by assumption) h.2) 5 rfl ?_)
    | (refine op_storeC (o := 0) h rfl rfl K.sz_S_api_Key (by first | rfl | assumption | exact Views.oneCell (Views.own 0 rfl) h.2 | exact Views.oneCell (Views.own 1 rfl) h.2 | exact Views.oneCell (Views.own 2 rfl) h.2 | exact Views.oneCell (Views.own 3 rfl) h.2 | exact Views.oneCell (Views.own 4 rfl) h.2 | exact Views.oneCell (Views.own 5 rfl) h.2 | exact Views.oneCell (by assumption) h.2) 6 rfl ?_)
  clear hD h a w; intro a w h
  (try simp only [List.set_cons_zero, List.set_cons_succ] at h)
  refine d_pay (Paid.nil) (fun hD => ?_)
  refine d_done (by kernel_rfl) ?_
  clear hD
  exact end0 h rfl ⟨(), rfl, QI_shut (by first | exact h.2 | exact h.2.drop 1 | exact h.2.drop 2), trivial⟩
end Go.Proofs.K
namespace Go.Proofs.K
open Go.Sl
attribute [local irreducible] Go.Sl.Own Go.Sl.Blk Go.Sl.Sep Go.Sl.Ex Go.Sl.Fact

theorem q_each (s w : World) (b : Nat) (F : List HItem) (hs : Sat s w F) :
    Calls P n_graph_queue_api_Key_each #[gp b] w (Ret s (fun bx : Nat => .func (.func n_graph_queue_api_Key_each_1) #[] #[gp bx]) (fun bx => Blk bx (.cells ⟨[gp b]⟩ t_p_graph_queue_api_Key) :: F) (fun _ => True)) := by
  refine enter K.fn_graph_queue_api_Key_each rfl K.nt_graph_queue_api_Key_each rfl hs ?_
  clear hs w; intro a w h
  refine c_seq (c_region ?_)
  refine wl rfl (op_box h rfl rfl ?_)
  clear h a w; intro b1 a w h
  try simp only [Value.cells] at h
  refine wv h (r_assign h rfl) rfl ?_
  clear h a w; intro a w h
  refine wnil (c_then ?_)
  refine c_seq (c_region ?_)
  refine wv h (r_makeFunc h rfl rfl) rfl ?_
  clear h a w; intro a w h
  refine wv h (r_assign h rfl) rfl ?_
  clear h a w; intro a w h
  refine wnil (c_then ?_)
  refine c_ret ?_
  exact ret1 h rfl rfl ⟨_, rfl, h.2, trivial⟩

theorem keys_flat (l : List Key) : (l.flatMap cellsA).length = l.length * 32 := by
  induction l with
  | nil => rfl
  | cons x l ih => rw [List.flatMap_cons, List.length_append, ih, Row.len x, List.length_cons]; omega
theorem tail_own {v : Value} {k : Key} {rest : List Key} {h : HM} (ho : (OwnM 32 cellsA v (k :: rest)).P h) : (OwnM 32 cellsA (subV 32 v 1 (k :: rest).length) rest).P h := by
  have := Own.sub ho (i := 1) (j := (k :: rest).length) (by simp) (Nat.le_refl _) (by decide)
  rw [OwnM_eq (l := rest) (cells := cellsA) (size := 32) ?_ (by simp)] at this
  · exact this
  · rw [List.flatMap_cons, List.drop_left' (by rw [Nat.one_mul]; exact Row.len k)]
    refine List.take_of_length_le ?_
    rw [keys_flat rest]
    simp
theorem sub_one {L : List HItem} {v : Value} {k : Key} {rest : List Key} {s w : World} (h : Sat s w L) (i : Nat) (hi : L[i]? = some (OwnM 32 cellsA v (k :: rest))) : (subV 32 v 1 (k :: rest).length).oneCell' = true := by
  obtain ⟨A, cap, rfl, _⟩ := (Views.own i hi).shape h
  rfl

theorem q_each1 (s w : World) (l bq bx : Nat) {X Y : Type} (qs : X → List Key) (m : X → Nat) (M : X → HItem) (N : Y → HItem) (φ : X → Prop) (ψ : Y → Prop) (F : List HItem)
    (hb : ∀ x, φ x → (qs x).length ≤ 4000000)
    (hy : ∀ x k rest w, φ x → qs x = k :: rest → Sat s w (QI bq rest :: Blk bx (.cells ⟨[gp bq]⟩ t_p_graph_queue_api_Key) :: M x :: F) →
      YieldAt Fence.wide 0 P l [keyV k].toArray w (Ret s (fun z : X ⊕ Y => .bool z.isLeft)
        (fun z => match z with | .inl x' => QI bq (qs x') :: Blk bx (.cells ⟨[gp bq]⟩ t_p_graph_queue_api_Key) :: M x' :: F | .inr y => N y :: F)
        (fun z => match z with | .inl x' => φ x' ∧ m x' < m x | .inr y => ψ y)))
    (x0 : X) (h0 : φ x0) (hs : Sat s w (QI bq (qs x0) :: Blk bx (.cells ⟨[gp bq]⟩ t_p_graph_queue_api_Key) :: M x0 :: F)) :
    Calls P n_graph_queue_api_Key_each_1 #[.func (.yield l) #[] #[], gp bx] w (Ret s (fun _ : X ⊕ Y => .tuple #[])
      (fun z => match z with | .inl x => M x :: F | .inr y => N y :: F) (fun z => match z with | .inl x => φ x ∧ qs x = [] | .inr y => ψ y)) := by
  refine enter K.fn_graph_queue_api_Key_each_1 rfl K.nt_graph_queue_api_Key_each_1 rfl hs ?_
  clear hs w; intro a w h
  refine c_block ?_
  refine c_loop (X := X) (fun _ => [(0, .func (.yield l) #[] #[]), (1, gp bx)]) (fun x => QI bq (qs x) :: Blk bx (.cells ⟨[gp bq]⟩ t_p_graph_queue_api_Key) :: M x :: F) φ m x0 (h.keep [0, 1]) h0 ?_
  clear h a w; intro x a w hx h
  have hb1 := hb x hx
  obtain ⟨v, hv⟩ := QI_open h.2
  replace h := (⟨h.1, hv⟩ : St _ _ _ _ _ _)
  clear hv
  unfold QL at h
  as_aux_lemma =>
   refine c_seq ?_
   refine c_seq (c_region ?_)
   first
      | (refine wv h (r_ldN h rfl K.u_p_graph_queue_api_Key rfl 0 rfl rfl) rfl ?_)
      | (refine wv h (r_ldN h rfl K.u_p_graph_queue_api_Key rfl 1 rfl rfl) rfl ?_)
      | (refine wv h (r_ldN h rfl K.u_p_graph_queue_api_Key rfl 2 rfl rfl) rfl ?_)
      | (refine wv h (r_ldN h rfl K.u_p_graph_queue_api_Key rfl 3 rfl rfl) rfl ?_)
      | (refine wv h (r_ldN h rfl K.u_p_graph_queue_api_Key rfl 4 rfl rfl) rfl ?_)
      | (refine wv h (r_ldN h rfl K.u_p_graph_queue_api_Key rfl 5 rfl rfl) rfl ?_)
      | (refine wv h (r_ldN h rfl K.u_p_graph_queue_api_Key rfl 6 rfl rfl) rfl ?_)
      | (refine wv h (r_load h rfl K.u_p_graph_queue_api_Key rfl 0 rfl rfl) rfl ?_)
      | (refine wv h (r_load h rfl K.u_p_graph_queue_api_Key rfl 1 rfl rfl) rfl ?_)
      | (refine wv h (r_load h rfl K.u_p_graph_queue_api_Key rfl 2 rfl rfl) rfl ?_)
      | (refine wv h (r_load h rfl K.u_p_graph_queue_api_Key rfl 3 rfl rfl) rfl ?_)
      | (refine wv h (r_load h rfl K.u_p_graph_queue_api_Key rfl 4 rfl rfl) rfl ?_)
      | (refine wv h (r_load h rfl K.u_p_graph_queue_api_Key rfl 5 rfl rfl) rfl ?_)
      | (refine wv h (r_load1 h rfl K.u_p_graph_queue_api_Key rfl (by assumption)) rfl ?_)
   clear h a w; intro a w h
   refine wv h (r_nilCheck h rfl) rfl ?_
   clear h a w; intro a w h
   refine wv h (r_fieldAddr0 h rfl K.u_graph_queue_api_Key rfl K.sz_S_api_Key rfl rfl) rfl ?_
   clear h a w; intro a w h
   first
      | (refine wv h (r_ldN h rfl K.u_S_api_Key rfl 0 rfl rfl) rfl ?_)
      | (refine wv h (r_ldN h rfl K.u_S_api_Key rfl 1 rfl rfl) rfl ?_)
      | (refine wv h (r_ldN h rfl K.u_S_api_Key rfl 2 rfl rfl) rfl ?_)
      | (refine wv h (r_ldN h rfl K.u_S_api_Key rfl 3 rfl rfl) rfl ?_)
      | (refine wv h (r_ldN h rfl K.u_S_api_Key rfl 4 rfl rfl) rfl ?_)
      | (refine wv h (r_ldN h rfl K.u_S_api_Key rfl 5 rfl rfl) rfl ?_)
      | (refine wv h (r_ldN h rfl K.u_S_api_Key rfl 6 rfl rfl) rfl ?_)
      | (refine wv h (r_ldC (o := 0) h rfl K.u_S_api_Key rfl 0 rfl) rfl ?_)
      | (refine wv h (r_ldC (o := 0) h rfl K.u_S_api_Key rfl 1 rfl) rfl ?_)
      | (refine wv h (r_ldC (o := 0) h rfl K.u_S_api_Key rfl 2 rfl) rfl ?_)
      | (refine wv h (r_ldC (o := 0) h rfl K.u_S_api_Key rfl 3 rfl) rfl ?_)
      | (refine wv h (r_ldC (o := 0) h rfl K.u_S_api_Key rfl 4 rfl) rfl ?_)
      | (refine wv h (r_ldC (o := 0) h rfl K.u_S_api_Key rfl 5 rfl) rfl ?_)
      | (refine wv h (r_ldC (o := 0) h rfl K.u_S_api_Key rfl 6 rfl) rfl ?_)
      | (refine wv h (r_load h rfl K.u_S_api_Key rfl 0 rfl rfl) rfl ?_)
      | (refine wv h (r_load h rfl K.u_S_api_Key rfl 1 rfl rfl) rfl ?_)
      | (refine wv h (r_load h rfl K.u_S_api_Key rfl 2 rfl rfl) rfl ?_)
      | (refine wv h (r_load h rfl K.u_S_api_Key rfl 3 rfl rfl) rfl ?_)
      | (refine wv h (r_load h rfl K.u_S_api_Key rfl 4 rfl rfl) rfl ?_)
      | (refine wv h (r_load h rfl K.u_S_api_Key rfl 5 rfl rfl) rfl ?_)
      | (refine wv h (r_load1 h rfl K.u_S_api_Key rfl (by assumption)) rfl ?_)
   clear h a w; intro a w h
   refine wv h (r_lenV h rfl K.u_S_api_Key (by first | exact Views.own 0 rfl | exact Views.own 1 rfl | exact Views.own 2 rfl | exact Views.own 3 rfl | exact Views.own 4 rfl | exact Views.own 5 rfl | assumption | exact Views.of_drop 1 (by assumption) | exact Views.of_drop 2 (by assumption) | exact Views.of_drop 3 (by assumption) | exact Views.of_drop 4 (by assumption) | exact Views.of_drop 5 (by assumption) | exact Views.of_drop 6 (by assumption) | exact Views.of_drop 7 (by assumption) | exact Views.of_drop 8 (by assumption) | exact Views.of_drop 9 (by assumption) | exact Views.of_drop 10 (by assumption) | exact Views.of_drop 11 (by assumption) | exact Views.of_drop 12 (by assumption))) rfl ?_
   clear h a w; intro a w h
   refine wv h (r_bin h rfl rfl (B.gtr_int)) rfl ?_
   clear h a w; intro a w h
   refine wnil (c_then ?_)
   first
    | refine c_condD h rfl (fun ht1 => ?_) (fun ht1 => ?_)
    | refine c_condP h rfl (by first | (simp only [Bool.and_eq_true, Bool.or_eq_true, Bool.not_eq_true', decide_eq_true_eq, decide_eq_false_iff_not, ne_eq, Bool.not_eq_eq_eq_not, Bool.not_true, beq_iff_eq, bne_iff_ne]; exact Iff.rfl) | exact Iff.rfl) (fun ht1 => ?_) (fun ht1 => ?_)
   ·
    obtain ⟨k, rest, hk⟩ : ∃ k rest, qs x = k :: rest := by cases hq : qs x with
      | nil => rw [hq] at ht1; simp at ht1
      | cons k rest => exact ⟨k, rest, rfl⟩
    rw [hk] at h
    have ho := sub_one h.2 1 rfl
    refine c_skip ?_
    refine c_then ?_
    refine c_block ?_
    refine c_seq (c_region ?_)
    first
        | (refine wv h (r_ldN h rfl K.u_p_graph_queue_api_Key rfl 0 rfl rfl) rfl ?_)
        | (refine wv h (r_ldN h rfl K.u_p_graph_queue_api_Key rfl 1 rfl rfl) rfl ?_)
        | (refine wv h (r_ldN h rfl K.u_p_graph_queue_api_Key rfl 2 rfl rfl) rfl ?_)
        | (refine wv h (r_ldN h rfl K.u_p_graph_queue_api_Key rfl 3 rfl rfl) rfl ?_)
        | (refine wv h (r_ldN h rfl K.u_p_graph_queue_api_Key rfl 4 rfl rfl) rfl ?_)
        | (refine wv h (r_ldN h rfl K.u_p_graph_queue_api_Key rfl 5 rfl rfl) rfl ?_)
        | (refine wv h (r_ldN h rfl K.u_p_graph_queue_api_Key rfl 6 rfl rfl) rfl ?_)
        | (refine wv h (r_load h rfl K.u_p_graph_queue_api_Key rfl 0 rfl rfl) rfl ?_)
        | (refine wv h (r_load h rfl K.u_p_graph_queue_api_Key rfl 1 rfl rfl) rfl ?_)
        | (refine wv h (r_load h rfl K.u_p_graph_queue_api_Key rfl 2 rfl rfl) rfl ?_)
        | (refine wv h (r_load h rfl K.u_p_graph_queue_api_Key rfl 3 rfl rfl) rfl ?_)
        | (refine wv h (r_load h rfl K.u_p_graph_queue_api_Key rfl 4 rfl rfl) rfl ?_)
        | (refine wv h (r_load h rfl K.u_p_graph_queue_api_Key rfl 5 rfl rfl) rfl ?_)
        | (refine wv h (r_load1 h rfl K.u_p_graph_queue_api_Key rfl (by assumption)) rfl ?_)
    clear h a w; intro a w h
    refine wv h (r_nilCheck h rfl) rfl ?_
    clear h a w; intro a w h
    refine wv h (r_fieldAddr0 h rfl K.u_graph_queue_api_Key rfl K.sz_S_api_Key rfl rfl) rfl ?_
    clear h a w; intro a w h
    first
        | (refine wv h (r_ldN h rfl K.u_S_api_Key rfl 0 rfl rfl) rfl ?_)
        | (refine wv h (r_ldN h rfl K.u_S_api_Key rfl 1 rfl rfl) rfl ?_)
        | (refine wv h (r_ldN h rfl K.u_S_api_Key rfl 2 rfl rfl) rfl ?_)
        | (refine wv h (r_ldN h rfl K.u_S_api_Key rfl 3 rfl rfl) rfl ?_)
        | (refine wv h (r_ldN h rfl K.u_S_api_Key rfl 4 rfl rfl) rfl ?_)
        | (refine wv h (r_ldN h rfl K.u_S_api_Key rfl 5 rfl rfl) rfl ?_)
        | (refine wv h (r_ldN h rfl K.u_S_api_Key rfl 6 rfl rfl) rfl ?_)
        | (refine wv h (r_ldC (o := 0) h rfl K.u_S_api_Key rfl 0 rfl) rfl ?_)
        | (refine wv h (r_ldC (o := 0) h rfl K.u_S_api_Key rfl 1 rfl) rfl ?_)
        | (refine wv h (r_ldC (o := 0) h rfl K.u_S_api_Key rfl 2 rfl) rfl ?_)
        | (refine wv h (r_ldC (o := 0) h rfl K.u_S_api_Key rfl 3 rfl) rfl ?_)
        | (refine wv h (r_ldC (o := 0) h rfl K.u_S_api_Key rfl 4 rfl) rfl ?_)
        | (refine wv h (r_ldC (o := 0) h rfl K.u_S_api_Key rfl 5 rfl) rfl ?_)
        | (refine wv h (r_ldC (o := 0) h rfl K.u_S_api_Key rfl 6 rfl) rfl ?_)
        | (refine wv h (r_load h rfl K.u_S_api_Key rfl 0 rfl rfl) rfl ?_)
        | (refine wv h (r_load h rfl K.u_S_api_Key rfl 1 rfl rfl) rfl ?_)
        | (refine wv h (r_load h rfl K.u_S_api_Key rfl 2 rfl rfl) rfl ?_)
        | (refine wv h (r_load h rfl K.u_S_api_Key rfl 3 rfl rfl) rfl ?_)
        | (refine wv h (r_load h rfl K.u_S_api_Key rfl 4 rfl rfl) rfl ?_)
        | (refine wv h (r_load h rfl K.u_S_api_Key rfl 5 rfl rfl) rfl ?_)
        | (refine wv h (r_load1 h rfl K.u_S_api_Key rfl (by assumption)) rfl ?_)
    clear h a w; intro a w h
    refine wv h (r_elP h rfl rfl K.u_S_api_Key K.sz_api_Key (by first | exact Views.own 0 rfl | exact Views.own 1 rfl | exact Views.own 2 rfl | exact Views.own 3 rfl | exact Views.own 4 rfl | exact Views.own 5 rfl | assumption | exact Views.of_drop 1 (by assumption) | exact Views.of_drop 2 (by assumption) | exact Views.of_drop 3 (by assumption) | exact Views.of_drop 4 (by assumption) | exact Views.of_drop 5 (by assumption) | exact Views.of_drop 6 (by assumption) | exact Views.of_drop 7 (by assumption) | exact Views.of_drop 8 (by assumption) | exact Views.of_drop 9 (by assumption) | exact Views.of_drop 10 (by assumption) | exact Views.of_drop 11 (by assumption) | exact Views.of_drop 12 (by assumption)) (by first | omega | (simp; done)) (by first | omega | (simp only [List.length_cons, List.length_nil]; omega) | (simp; done) | (simp; omega))) rfl ?_
    clear h a w; intro a w h
    first
        | (refine wv h (r_elM h rfl K.u_api_Key rfl K.sz_api_Key rfl (by first | exact Views.own 0 rfl | exact Views.own 1 rfl | exact Views.own 2 rfl | exact Views.own 3 rfl | exact Views.own 4 rfl | exact Views.own 5 rfl | assumption | exact Views.of_drop 1 (by assumption) | exact Views.of_drop 2 (by assumption) | exact Views.of_drop 3 (by assumption) | exact Views.of_drop 4 (by assumption) | exact Views.of_drop 5 (by assumption) | exact Views.of_drop 6 (by assumption) | exact Views.of_drop 7 (by assumption) | exact Views.of_drop 8 (by assumption) | exact Views.of_drop 9 (by assumption) | exact Views.of_drop 10 (by assumption) | exact Views.of_drop 11 (by assumption) | exact Views.of_drop 12 (by assumption)) (by assumption)) rfl ?_)
        | (refine wv h (r_elMd h rfl K.u_api_Key rfl K.sz_api_Key rfl (by first | exact Views.own 0 rfl | exact Views.own 1 rfl | exact Views.own 2 rfl | exact Views.own 3 rfl | exact Views.own 4 rfl | exact Views.own 5 rfl | assumption | exact Views.of_drop 1 (by assumption) | exact Views.of_drop 2 (by assumption) | exact Views.of_drop 3 (by assumption) | exact Views.of_drop 4 (by assumption) | exact Views.of_drop 5 (by assumption) | exact Views.of_drop 6 (by assumption) | exact Views.of_drop 7 (by assumption) | exact Views.of_drop 8 (by assumption) | exact Views.of_drop 9 (by assumption) | exact Views.of_drop 10 (by assumption) | exact Views.of_drop 11 (by assumption) | exact Views.of_drop 12 (by assumption)) (by first | omega | (simp only [List.length_cons, List.length_nil]; omega) | (simp; done) | (simp; omega))) rfl ?_)
    clear h a w; intro a w h
    refine wl rfl (op_alloc h K.z_api_Key rfl ?_)
    clear h a w; intro b3 a w h
    rw [show (Value.agg (Array.replicate 32 (Value.int .u8 0))).cells = arr8 (List.replicate 32 0) from (arr8_zero 32).symm] at h
    first
        | (refine wl rfl (op_storeA8 h rfl rfl K.sz_api_Key (by first | rfl | assumption | (simp; done) | (simp; omega) | omega) 0 rfl (by first | rfl | (simp [arr8]; done) | (simp [arr8]; omega) | (simp [arr8]; assumption)) ?_))
        | (refine wl rfl (op_storeA8 h rfl rfl K.sz_api_Key (by first | rfl | assumption | (simp; done) | (simp; omega) | omega) 1 rfl (by first | rfl | (simp [arr8]; done) | (simp [arr8]; omega) | (simp [arr8]; assumption)) ?_))
        | (refine wl rfl (op_storeA8 h rfl rfl K.sz_api_Key (by first | rfl | assumption | (simp; done) | (simp; omega) | omega) 2 rfl (by first | rfl | (simp [arr8]; done) | (simp [arr8]; omega) | (simp [arr8]; assumption)) ?_))
        | (refine wl rfl (op_storeA8 h rfl rfl K.sz_api_Key (by first | rfl | assumption | (simp; done) | (simp; omega) | omega) 3 rfl (by first | rfl | (simp [arr8]; done) | (simp [arr8]; omega) | (simp [arr8]; assumption)) ?_))
        | (refine wl rfl (op_storeA8 h rfl rfl K.sz_api_Key (by first | rfl | assumption | (simp; done) | (simp; omega) | omega) 4 rfl (by first | rfl | (simp [arr8]; done) | (simp [arr8]; omega) | (simp [arr8]; assumption)) ?_))
        | (refine wl rfl (op_storeA8 h rfl rfl K.sz_api_Key (by first | rfl | assumption | (simp; done) | (simp; omega) | omega) 5 rfl (by first | rfl | (simp [arr8]; done) | (simp [arr8]; omega) | (simp [arr8]; assumption)) ?_))
    clear h a w; intro a w h
    (try simp only [List.set_cons_zero, List.set_cons_succ] at h)
    refine wnil (c_then ?_)
    refine c_seq (c_tail 8 K.mixed (by kernel_rfl) h ?_)
    clear h a w; intro a w h
    first
        | (refine yv h (r_ldN h rfl K.u_p_graph_queue_api_Key rfl 0 rfl rfl) rfl ?_)
        | (refine yv h (r_ldN h rfl K.u_p_graph_queue_api_Key rfl 1 rfl rfl) rfl ?_)
        | (refine yv h (r_ldN h rfl K.u_p_graph_queue_api_Key rfl 2 rfl rfl) rfl ?_)
        | (refine yv h (r_ldN h rfl K.u_p_graph_queue_api_Key rfl 3 rfl rfl) rfl ?_)
        | (refine yv h (r_ldN h rfl K.u_p_graph_queue_api_Key rfl 4 rfl rfl) rfl ?_)
        | (refine yv h (r_ldN h rfl K.u_p_graph_queue_api_Key rfl 5 rfl rfl) rfl ?_)
        | (refine yv h (r_ldN h rfl K.u_p_graph_queue_api_Key rfl 6 rfl rfl) rfl ?_)
        | (refine yv h (r_load h rfl K.u_p_graph_queue_api_Key rfl 0 rfl rfl) rfl ?_)
        | (refine yv h (r_load h rfl K.u_p_graph_queue_api_Key rfl 1 rfl rfl) rfl ?_)
        | (refine yv h (r_load h rfl K.u_p_graph_queue_api_Key rfl 2 rfl rfl) rfl ?_)
        | (refine yv h (r_load h rfl K.u_p_graph_queue_api_Key rfl 3 rfl rfl) rfl ?_)
        | (refine yv h (r_load h rfl K.u_p_graph_queue_api_Key rfl 4 rfl rfl) rfl ?_)
        | (refine yv h (r_load h rfl K.u_p_graph_queue_api_Key rfl 5 rfl rfl) rfl ?_)
        | (refine yv h (r_load1 h rfl K.u_p_graph_queue_api_Key rfl (by assumption)) rfl ?_)
    clear h a; intro a h
    first
        | (refine yv h (r_ldN h rfl K.u_p_graph_queue_api_Key rfl 0 rfl rfl) rfl ?_)
        | (refine yv h (r_ldN h rfl K.u_p_graph_queue_api_Key rfl 1 rfl rfl) rfl ?_)
        | (refine yv h (r_ldN h rfl K.u_p_graph_queue_api_Key rfl 2 rfl rfl) rfl ?_)
        | (refine yv h (r_ldN h rfl K.u_p_graph_queue_api_Key rfl 3 rfl rfl) rfl ?_)
        | (refine yv h (r_ldN h rfl K.u_p_graph_queue_api_Key rfl 4 rfl rfl) rfl ?_)
        | (refine yv h (r_ldN h rfl K.u_p_graph_queue_api_Key rfl 5 rfl rfl) rfl ?_)
        | (refine yv h (r_ldN h rfl K.u_p_graph_queue_api_Key rfl 6 rfl rfl) rfl ?_)
        | (refine yv h (r_load h rfl K.u_p_graph_queue_api_Key rfl 0 rfl rfl) rfl ?_)
        | (refine yv h (r_load h rfl K.u_p_graph_queue_api_Key rfl 1 rfl rfl) rfl ?_)
        | (refine yv h (r_load h rfl K.u_p_graph_queue_api_Key rfl 2 rfl rfl) rfl ?_)
        | (refine yv h (r_load h rfl K.u_p_graph_queue_api_Key rfl 3 rfl rfl) rfl ?_)
        | (refine yv h (r_load h rfl K.u_p_graph_queue_api_Key rfl 4 rfl rfl) rfl ?_)
        | (refine yv h (r_load h rfl K.u_p_graph_queue_api_Key rfl 5 rfl rfl) rfl ?_)
        | (refine yv h (r_load1 h rfl K.u_p_graph_queue_api_Key rfl (by assumption)) rfl ?_)
    clear h a; intro a h
    refine yv h (r_nilCheck h rfl) rfl ?_
    clear h a; intro a h
    refine yv h (r_fieldAddr0 h rfl K.u_graph_queue_api_Key rfl K.sz_S_api_Key rfl rfl) rfl ?_
    clear h a; intro a h
    first
        | (refine yv h (r_ldN h rfl K.u_S_api_Key rfl 0 rfl rfl) rfl ?_)
        | (refine yv h (r_ldN h rfl K.u_S_api_Key rfl 1 rfl rfl) rfl ?_)
        | (refine yv h (r_ldN h rfl K.u_S_api_Key rfl 2 rfl rfl) rfl ?_)
        | (refine yv h (r_ldN h rfl K.u_S_api_Key rfl 3 rfl rfl) rfl ?_)
        | (refine yv h (r_ldN h rfl K.u_S_api_Key rfl 4 rfl rfl) rfl ?_)
        | (refine yv h (r_ldN h rfl K.u_S_api_Key rfl 5 rfl rfl) rfl ?_)
        | (refine yv h (r_ldN h rfl K.u_S_api_Key rfl 6 rfl rfl) rfl ?_)
        | (refine yv h (r_ldC (o := 0) h rfl K.u_S_api_Key rfl 0 rfl) rfl ?_)
        | (refine yv h (r_ldC (o := 0) h rfl K.u_S_api_Key rfl 1 rfl) rfl ?_)
        | (refine yv h (r_ldC (o := 0) h rfl K.u_S_api_Key rfl 2 rfl) rfl ?_)
        | (refine yv h (r_ldC (o := 0) h rfl K.u_S_api_Key rfl 3 rfl) rfl ?_)
        | (refine yv h (r_ldC (o := 0) h rfl K.u_S_api_Key rfl 4 rfl) rfl ?_)
        | (refine yv h (r_ldC (o := 0) h rfl K.u_S_api_Key rfl 5 rfl) rfl ?_)
        | (refine yv h (r_ldC (o := 0) h rfl K.u_S_api_Key rfl 6 rfl) rfl ?_)
        | (refine yv h (r_load h rfl K.u_S_api_Key rfl 0 rfl rfl) rfl ?_)
        | (refine yv h (r_load h rfl K.u_S_api_Key rfl 1 rfl rfl) rfl ?_)
        | (refine yv h (r_load h rfl K.u_S_api_Key rfl 2 rfl rfl) rfl ?_)
        | (refine yv h (r_load h rfl K.u_S_api_Key rfl 3 rfl rfl) rfl ?_)
        | (refine yv h (r_load h rfl K.u_S_api_Key rfl 4 rfl rfl) rfl ?_)
        | (refine yv h (r_load h rfl K.u_S_api_Key rfl 5 rfl rfl) rfl ?_)
        | (refine yv h (r_load1 h rfl K.u_S_api_Key rfl (by assumption)) rfl ?_)
    clear h a; intro a h
    refine yv h (r_sliceV h rfl K.u_S_api_Key K.sz_api_Key (by first | exact Views.own 0 rfl | exact Views.own 1 rfl | exact Views.own 2 rfl | exact Views.own 3 rfl | exact Views.own 4 rfl | exact Views.own 5 rfl | assumption | exact Views.of_drop 1 (by assumption) | exact Views.of_drop 2 (by assumption) | exact Views.of_drop 3 (by assumption) | exact Views.of_drop 4 (by assumption) | exact Views.of_drop 5 (by assumption) | exact Views.of_drop 6 (by assumption) | exact Views.of_drop 7 (by assumption) | exact Views.of_drop 8 (by assumption) | exact Views.of_drop 9 (by assumption) | exact Views.of_drop 10 (by assumption) | exact Views.of_drop 11 (by assumption) | exact Views.of_drop 12 (by assumption)) _ _ (Bnd.of rfl (by omega)) Bnd.no (by first | omega | (simp only [List.length_cons, List.length_nil]; omega) | (simp; done) | (simp; omega)) (by first | omega | (simp only [List.length_cons, List.length_nil]; omega) | (simp; done) | (simp; omega))) rfl ?_
    clear h a; intro a h
    refine yv h (r_nilCheck h rfl) rfl ?_
    clear h a; intro a h
    refine yv h (r_fieldAddr0 h rfl K.u_graph_queue_api_Key rfl K.sz_S_api_Key rfl rfl) rfl ?_
    clear h a; intro a h
    refine ynil ?_
    first
        | (refine wl rfl (op_storeN h rfl rfl K.sz_S_api_Key (by first | rfl | assumption | exact Views.oneCell (Views.own 0 rfl) h.2 | exact Views.oneCell (Views.own 1 rfl) h.2 | exact Views.oneCell (Views.own 2 rfl) h.2 | exact Views.oneCell (Views.own 3 rfl) h.2 | exact Views.oneCell (Views.own 4 rfl) h.2 | exact Views.oneCell (Views.own 5 rfl) h.2 | exact Views.oneCell (by assumption) h.2) 0 rfl rfl ?_))
        | (refine wl rfl (op_storeN h rfl rfl K.sz_S_api_Key (by first | rfl | assumption | exact Views.oneCell (Views.own 0 rfl) h.2 | exact Views.oneCell (Views.own 1 rfl) h.2 | exact Views.oneCell (Views.own 2 rfl) h.2 | exact Views.oneCell (Views.own 3 rfl) h.2 | exact Views.oneCell (Views.own 4 rfl) h.2 | exact Views.oneCell (Views.own 5 rfl) h.2 | exact Views.oneCell (by assumption) h.2) 1 rfl rfl ?_))
        | (refine wl rfl (op_storeN h rfl rfl K.sz_S_api_Key (by first | rfl | assumption | exact Views.oneCell (Views.own 0 rfl) h.2 | exact Views.oneCell (Views.own 1 rfl) h.2 | exact Views.oneCell (Views.own 2 rfl) h.2 | exact Views.oneCell (Views.own 3 rfl) h.2 | exact Views.oneCell (Views.own 4 rfl) h.2 | exact Views.oneCell (Views.own 5 rfl) h.2 | exact Views.oneCell (by assumption) h.2) 2 rfl rfl ?_))
        | (refine wl rfl (op_storeN h rfl rfl K.sz_S_api_Key (by first | rfl | assumption | exact Views.oneCell (Views.own 0 rfl) h.2 | exact Views.oneCell (Views.own 1 rfl) h.2 | exact Views.oneCell (Views.own 2 rfl) h.2 | exact Views.oneCell (Views.own 3 rfl) h.2 | exact Views.oneCell (Views.own 4 rfl) h.2 | exact Views.oneCell (Views.own 5 rfl) h.2 | exact Views.oneCell (by assumption) h.2) 3 rfl rfl ?_))
        | (refine wl rfl (op_storeN h rfl rfl K.sz_S_api_Key (by first | rfl | assumption | exact Views.oneCell (Views.own 0 rfl) h.2 | exact Views.oneCell (Views.own 1 rfl) h.2 | exact Views.oneCell (Views.own 2 rfl) h.2 | exact Views.oneCell (Views.own 3 rfl) h.2 | exact Views.oneCell (Views.own 4 rfl) h.2 | exact Views.oneCell (Views.own 5 rfl) h.2 | exact Views.oneCell (by assumption) h.2) 4 rfl rfl ?_))
        | (refine wl rfl (op_storeN h rfl rfl K.sz_S_api_Key (by first | rfl | assumption | exact Views.oneCell (Views.own 0 rfl) h.2 | exact Views.oneCell (Views.own 1 rfl) h.2 | exact Views.oneCell (Views.own 2 rfl) h.2 | exact Views.oneCell (Views.own 3 rfl) h.2 | exact Views.oneCell (Views.own 4 rfl) h.2 | exact Views.oneCell (Views.own 5 rfl) h.2 | exact Views.oneCell (by assumption) h.2) 5 rfl rfl ?_))
        | (refine wl rfl (op_storeN h rfl rfl K.sz_S_api_Key (by first | rfl | assumption | exact Views.oneCell (Views.own 0 rfl) h.2 | exact Views.oneCell (Views.own 1 rfl) h.2 | exact Views.oneCell (Views.own 2 rfl) h.2 | exact Views.oneCell (Views.own 3 rfl) h.2 | exact Views.oneCell (Views.own 4 rfl) h.2 | exact Views.oneCell (Views.own 5 rfl) h.2 | exact Views.oneCell (by assumption) h.2) 6 rfl rfl ?_))
        | (refine wl rfl (op_storeC (o := 0) h rfl rfl K.sz_S_api_Key (by first | rfl | assumption | exact Views.oneCell (Views.own 0 rfl) h.2 | exact Views.oneCell (Views.own 1 rfl) h.2 | exact Views.oneCell (Views.own 2 rfl) h.2 | exact Views.oneCell (Views.own 3 rfl) h.2 | exact Views.oneCell (Views.own 4 rfl) h.2 | exact Views.oneCell (Views.own 5 rfl) h.2 | exact Views.oneCell (by assumption) h.2) 0 rfl ?_))
        | (refine wl rfl (op_storeC (o := 0) h rfl rfl K.sz_S_api_Key (by first | rfl | assumption | exact Views.oneCell (Views.own 0 rfl) h.2 | exact Views.oneCell (Views.own 1 rfl) h.2 | exact Views.oneCell (Views.own 2 rfl) h.2 | exact Views.oneCell (Views.own 3 rfl) h.2 | exact Views.oneCell (Views.own 4 rfl) h.2 | exact Views.oneCell (Views.own 5 rfl) h.2 | exact Views.oneCell (by assumption) h.2) 1 rfl ?_))
        | (refine wl rfl (op_storeC (o := 0) h rfl rfl K.sz_S_api_Key (by first | rfl | assumption | exact Views.oneCell (Views.own 0 rfl) h.2 | exact Views.oneCell (Views.own 1 rfl) h.2 | exact Views.oneCell (Views.own 2 rfl) h.2 | exact Views.oneCell (Views.own 3 rfl) h.2 | exact Views.oneCell (Views.own 4 rfl) h.2 | exact Views.oneCell (Views.own 5 rfl) h.2 | exact Views.oneCell (by assumption) h.2) 2 rfl ?_))
        | (refine wl rfl (op_storeC (o := 0) h rfl rfl K.sz_S_api_Key (by first | rfl | assumption | exact Views.oneCell (Views.own 0 rfl) h.2 | exact Views.oneCell (Views.own 1 rfl) h.2 | exact Views.oneCell (Views.own 2 rfl) h.2 | exact Views.oneCell (Views.own 3 rfl) h.2 | exact Views.oneCell (Views.own 4 rfl) h.2 | exact Views.oneCell (Views.own 5 rfl) h.2 | exact Views.oneCell (by assumption) h.2) 3 rfl ?_))
        | (refine wl rfl (op_storeC (o := 0) h rfl rfl K.sz_S_api_Key (by first | rfl | assumption | exact Views.oneCell (Views.own 0 rfl) h.2 | exact Views.oneCell (Views.own 1 rfl) h.2 | exact Views.oneCell (Views.own 2 rfl) h.2 | exact Views.oneCell (Views.own 3 rfl) h.2 | exact Views.oneCell (Views.own 4 rfl) h.2 | exact Views.oneCell (Views.own 5 rfl) h.2 | exact Views.oneCell (by assumption) h.2) 4 rfl ?_))
        | (refine wl rfl (op_storeC (o := 0) h rfl rfl K.sz_S_api_Key (by first | rfl | assumption | exact Views.oneCell (Views.own 0 rfl) h.2 | exact Views.oneCell (Views.own 1 rfl) h.2 | exact Views.oneCell (Views.own 2 rfl) h.2 | exact Views.oneCell (Views.own 3 rfl) h.2 | exact Views.oneCell (Views.own 4 rfl) h.2 | exact Views.oneCell (Views.own 5 rfl) h.2 | exact Views.oneCell (by assumption) h.2) 5 rfl ?_))
        | (refine wl rfl (op_storeC (o := 0) h rfl rfl K.sz_S_api_Key (by first | rfl | assumption | exact Views.oneCell (Views.own 0 rfl) h.2 | exact Views.oneCell (Views.own 1 rfl) h.2 | exact Views.oneCell (Views.own 2 rfl) h.2 | exact Views.oneCell (Views.own 3 rfl) h.2 | exact Views.oneCell (Views.own 4 rfl) h.2 | exact Views.oneCell (Views.own 5 rfl) h.2 | exact Views.oneCell (by assumption) h.2) 6 rfl ?_))
    clear h a w; intro a w h
    (try simp only [List.set_cons_zero, List.set_cons_succ] at h)
    refine wnil ?_
    refine c_then ?_
    replace h := h.mem (fun q => q.map 2 rfl (fun _ => tail_own))
    simp only [List.set_cons_zero, List.set_cons_succ, List.cons_append, List.nil_append] at h
    rw [show ((k :: rest).getD 0 default).val = k.val from rfl] at h
    refine c_seq (R.c_regionY ?_)
    refine R.wv h (r_move h rfl) rfl ?_
    clear h a w; intro a w h
    refine R.wv h (r_loadA8 h rfl K.u_api_Key rfl K.sz_api_Key 0 rfl k.len) rfl ?_
    clear h a w; intro a w h
    refine R.wyield (vs := [keyV k]) h rfl rfl rfl (hy x k rest _ hx hk (QI_shut h.2.tail)) ?_
    clear h a w; intro z a w hz h
    refine R.wv h (r_not h rfl) rfl ?_
    clear h a w; intro a w h
    refine R.wnil h ?_
    rw [dd_nil h.1]
    refine c_then ?_
    first
     | refine c_condD h rfl (fun ht2 => ?_) (fun ht2 => ?_)
     | refine c_condP h rfl (by first | (simp only [Bool.and_eq_true, Bool.or_eq_true, Bool.not_eq_true', decide_eq_true_eq, decide_eq_false_iff_not, ne_eq, Bool.not_eq_eq_eq_not, Bool.not_true, beq_iff_eq, bne_iff_ne]; exact Iff.rfl) | exact Iff.rfl) (fun ht2 => ?_) (fun ht2 => ?_)
    ·
     rcases z with x' | y
     · simp at ht2
     as_aux_lemma =>
      refine c_ret ?_
      exact ret0 h rfl ⟨.inr y, rfl, h.2, hz⟩
    ·
     rcases z with x' | y
     rotate_left
     · simp at ht2
     refine c_skip ?_
     refine b_normal ?_
     exact ⟨x', ⟨(h.keep [0, 1]).1, h.2⟩, hz⟩
   ·
    refine c_exit ?_
    refine e_then ?_
    refine e_then ?_
    refine e_here ?_
    have hq0 : qs x = [] := by cases hq : qs x with
      | nil => rfl
      | cons k rest => rw [hq] at ht1; simp at ht1
    exact end0 h rfl ⟨.inl x, rfl, h.2.tail.tail.tail, hx, hq0⟩
end Go.Proofs.K
