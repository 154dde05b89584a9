/- The contracts of package graph: a walk, over whatever takes what comes. -/
import Derived.Test.YtnplbpmdehcknaaGraph
import Derived.Test.YtnplbpmdehcknaaBook
set_option linter.unusedVariables false
set_option linter.unusedSimpArgs false
set_option maxRecDepth 10000
set_option maxHeartbeats 2000000
namespace Go.Proofs.K
open Go.Sl
attribute [local irreducible] Go.Sl.Own Go.Sl.Blk Go.Sl.Sep Go.Sl.Ex Go.Sl.Fact

theorem g_walk (s w : World) (tt : TypeId) (vv : Value) (A : Option Addr) (n c : Nat) (F : List HItem) (hs : Sat s w F) :
    Calls P n_graph_walk #[.iface tt vv, .slice A n c] w (Ret s (fun x : Nat × Nat => .func (.func n_graph_walk_1) #[] #[gp x.1, gp x.2])
      (fun x => Blk x.1 (.cells ⟨[.slice A n c]⟩ t_S_api_Key) :: Blk x.2 (.cells ⟨[.iface tt vv]⟩ t_graph_Source) :: F) (fun _ => True)) := by
  refine enter K.fn_graph_walk rfl K.nt_graph_walk rfl hs ?_
  clear hs w; intro a w h
  refine c_seq (c_region ?_)
  refine wl rfl (op_box h rfl rfl ?_)
  clear h a w; intro b2 a w h
  try simp only [Value.cells] at h
  refine wl rfl (op_box h rfl rfl ?_)
  clear h a w; intro b3 a w h
  try simp only [Value.cells] at h
  refine wv h (r_assign h rfl) rfl ?_
  clear h a w; intro a w h
  refine wnil (c_then ?_)
  refine c_seq (c_region ?_)
  refine wv h (r_makeFunc h rfl rfl) rfl ?_
  clear h a w; intro a w h
  refine wv h (r_assign h rfl) rfl ?_
  clear h a w; intro a w h
  refine wnil (c_then ?_)
  refine c_ret ?_
  exact ret1 h rfl rfl ⟨(_, _), rfl, h.2, trivial⟩

theorem g_walk1 (s w : World) (l1 bf bs b : Nat) (A : Option Addr) (cap : Nat) (fr : List Key) (nv : Value) (xs : List NodeV) (AI : List Key → HItem) (AD : Int → HItem) (F : List HItem) (m : Nat) (r : List Key × Int)
    (hv : Views F 32 (.slice A fr.length cap) fr.length (fr.flatMap cellsA)) (hB : BookV F b nv xs) (hl : xs.length ≤ 4000000) (hp : ∀ x ∈ xs, x.pars.length ≤ 99) (hr : BfsOk (nsOf xs) m [] fr r)
    (hy : ∀ (G : List HItem) lst k e w', lst.length ≤ 9000 → Sat s w' (AI lst :: G) →
      YieldAt Fence.wide 0 P l1 [keyV k, .int .i64 e].toArray w' (Ret s (fun _ : Unit => .bool (decide (e = 0))) (fun _ => (if e = 0 then AI (lst ++ [k]) else AD e) :: G) (fun _ => True)))
    (hs : Sat s w (Blk bf (.cells ⟨[.slice A fr.length cap]⟩ t_S_api_Key) :: Blk bs (.cells ⟨[.iface t_p_interleafref18_Book (gp b)]⟩ t_graph_Source) :: AI [] :: F)) :
    Calls P n_graph_walk_1 #[.func (.yield l1) #[] #[], gp bf, gp bs] w (Ret s (fun _ : Unit => .tuple #[]) (fun _ => (if r.2 = 0 then AI r.1 else AD r.2) :: F) (fun _ => True)) := by
  have hfr : fr.length ≤ 1000000 := by have := hr.2.2; omega
  refine R.enterM K.fn_graph_walk_1 rfl K.nt_graph_walk_1 rfl hs ?_
  clear hs w; intro a w h
  refine R.c_seq (R.c_region ?_)
  refine R.wl h rfl rfl (op_box h rfl rfl ?_)
  clear h a w; intro b3 a w h
  try simp only [Value.cells] at h
  refine R.wnil h (R.c_then ?_)
  refine R.c_seq (R.c_region ?_)
  refine R.wl h rfl rfl (op_kmake h 32 rfl ?_)
  clear h a w; intro b13 a w h
  refine R.wl h rfl rfl (op_alloc h K.z_map_api_Key_bool rfl ?_)
  clear h a w; intro b4 a w h
  first
    | (refine R.wl h rfl rfl (op_storeN h rfl rfl K.sz_map_api_Key_bool (by first | rfl | assumption | exact Views.oneCell (Views.own 0 rfl) h.2 | exact Views.oneCell (Views.own 1 rfl) h.2 | exact Views.oneCell (Views.own 2 rfl) h.2 | exact Views.oneCell (Views.own 3 rfl) h.2 | exact Views.oneCell (Views.own 4 rfl) h.2 | exact Views.oneCell (Views.own 5 rfl) h.2 | exact Views.oneCell (by assumption) h.2) 0 rfl rfl ?_))
    | (refine R.wl h rfl rfl (op_storeN h rfl rfl K.sz_map_api_Key_bool (by first | rfl | assumption | exact Views.oneCell (Views.own 0 rfl) h.2 | exact Views.oneCell (Views.own 1 rfl) h.2 | exact Views.oneCell (Views.own 2 rfl) h.2 | exact Views.oneCell (Views.own 3 rfl) h.2 | exact Views.oneCell (Views.own 4 rfl) h.2 | exact Views.oneCell (Views.own 5 rfl) h.2 | exact Views.oneCell (by assumption) h.2) 1 rfl rfl ?_))
    | (refine R.wl h rfl rfl (op_storeN h rfl rfl K.sz_map_api_Key_bool (by first | rfl | assumption | exact Views.oneCell (Views.own 0 rfl) h.2 | exact Views.oneCell (Views.own 1 rfl) h.2 | exact Views.oneCell (Views.own 2 rfl) h.2 | exact Views.oneCell (Views.own 3 rfl) h.2 | exact Views.oneCell (Views.own 4 rfl) h.2 | exact Views.oneCell (Views.own 5 rfl) h.2 | exact Views.oneCell (by assumption) h.2) 2 rfl rfl ?_))
    | (refine R.wl h rfl rfl (op_storeN h rfl rfl K.sz_map_api_Key_bool (by first | rfl | assumption | exact Views.oneCell (Views.own 0 rfl) h.2 | exact Views.oneCell (Views.own 1 rfl) h.2 | exact Views.oneCell (Views.own 2 rfl) h.2 | exact Views.oneCell (Views.own 3 rfl) h.2 | exact Views.oneCell (Views.own 4 rfl) h.2 | exact Views.oneCell (Views.own 5 rfl) h.2 | exact Views.oneCell (by assumption) h.2) 3 rfl rfl ?_))
    | (refine R.wl h rfl rfl (op_storeN h rfl rfl K.sz_map_api_Key_bool (by first | rfl | assumption | exact Views.oneCell (Views.own 0 rfl) h.2 | exact Views.oneCell (Views.own 1 rfl) h.2 | exact Views.oneCell (Views.own 2 rfl) h.2 | exact Views.oneCell (Views.own 3 rfl) h.2 | exact Views.oneCell (Views.own 4 rfl) h.2 | exact Views.oneCell (Views.own 5 rfl) h.2 | exact Views.oneCell (by assumption) h.2) 4 rfl rfl ?_))
    | (refine R.wl h rfl rfl (op_storeN h rfl rfl K.sz_map_api_Key_bool (by first | rfl | assumption | exact Views.oneCell (Views.own 0 rfl) h.2 | exact Views.oneCell (Views.own 1 rfl) h.2 | exact Views.oneCell (Views.own 2 rfl) h.2 | exact Views.oneCell (Views.own 3 rfl) h.2 | exact Views.oneCell (Views.own 4 rfl) h.2 | exact Views.oneCell (Views.own 5 rfl) h.2 | exact Views.oneCell (by assumption) h.2) 5 rfl rfl ?_))
    | (refine R.wl h rfl rfl (op_storeN h rfl rfl K.sz_map_api_Key_bool (by first | rfl | assumption | exact Views.oneCell (Views.own 0 rfl) h.2 | exact Views.oneCell (Views.own 1 rfl) h.2 | exact Views.oneCell (Views.own 2 rfl) h.2 | exact Views.oneCell (Views.own 3 rfl) h.2 | exact Views.oneCell (Views.own 4 rfl) h.2 | exact Views.oneCell (Views.own 5 rfl) h.2 | exact Views.oneCell (by assumption) h.2) 6 rfl rfl ?_))
  clear h a w; intro a w h
  (try simp only [List.set_cons_zero, List.set_cons_succ] at h)
  refine R.wnil h (R.c_then ?_)
  refine R.c_seq (R.c_region ?_)
  refine R.wl h rfl rfl (op_alloc h K.z_graph_queue_api_Key rfl ?_)
  clear h a w; intro b5 a w h
  replace h := (h.addNilM (size := 32) (cells := cellsA (n := 32))).front 1 rfl
  replace h : St _ _ _ _ _ (QI b5 [] :: _) := ⟨h.1, QI_shut (v := .slice none 0 0) (q := []) h.2⟩
  refine R.wnil h (R.c_then ?_)
  refine R.c_seq ?_
  refine R.c_seq (R.c_region ?_)
  first
    | (refine R.wv h (r_ldN h rfl K.u_S_api_Key rfl 0 rfl rfl) rfl ?_)
    | (refine R.wv h (r_ldN h rfl K.u_S_api_Key rfl 1 rfl rfl) rfl ?_)
    | (refine R.wv h (r_ldN h rfl K.u_S_api_Key rfl 2 rfl rfl) rfl ?_)
    | (refine R.wv h (r_ldN h rfl K.u_S_api_Key rfl 3 rfl rfl) rfl ?_)
    | (refine R.wv h (r_ldN h rfl K.u_S_api_Key rfl 4 rfl rfl) rfl ?_)
    | (refine R.wv h (r_ldN h rfl K.u_S_api_Key rfl 5 rfl rfl) rfl ?_)
    | (refine R.wv h (r_ldN h rfl K.u_S_api_Key rfl 6 rfl rfl) rfl ?_)
    | (refine R.wv h (r_load h rfl K.u_S_api_Key rfl 0 rfl rfl) rfl ?_)
    | (refine R.wv h (r_load h rfl K.u_S_api_Key rfl 1 rfl rfl) rfl ?_)
    | (refine R.wv h (r_load h rfl K.u_S_api_Key rfl 2 rfl rfl) rfl ?_)
    | (refine R.wv h (r_load h rfl K.u_S_api_Key rfl 3 rfl rfl) rfl ?_)
    | (refine R.wv h (r_load h rfl K.u_S_api_Key rfl 4 rfl rfl) rfl ?_)
    | (refine R.wv h (r_load h rfl K.u_S_api_Key rfl 5 rfl rfl) rfl ?_)
    | (refine R.wv h (r_load1 h rfl K.u_S_api_Key rfl (by assumption)) rfl ?_)
  clear h a w; intro a w h
  refine R.wv h (r_lenV h rfl K.u_S_api_Key (by first | exact Views.own 0 rfl | exact Views.own 1 rfl | exact Views.own 2 rfl | exact Views.own 3 rfl | exact Views.own 4 rfl | exact Views.own 5 rfl | assumption | exact Views.of_drop 1 (by assumption) | exact Views.of_drop 2 (by assumption) | exact Views.of_drop 3 (by assumption) | exact Views.of_drop 4 (by assumption) | exact Views.of_drop 5 (by assumption) | exact Views.of_drop 6 (by assumption) | exact Views.of_drop 7 (by assumption) | exact Views.of_drop 8 (by assumption) | exact Views.of_drop 9 (by assumption) | exact Views.of_drop 10 (by assumption) | exact Views.of_drop 11 (by assumption) | exact Views.of_drop 12 (by assumption))) rfl ?_
  clear h a w; intro a w h
  refine R.wv h (r_move h rfl) rfl ?_
  clear h a w; intro a w h
  refine R.wnil h (R.c_then ?_)
  refine R.c_block ?_
  refine R.c_loop (X := Nat) (fun i => [(1, gp bf), (2, gp bs), (3, gp b3), (4, gp b4), (5, gp b5), (14, .slice A fr.length cap), (15, .int .i64 (fr.length : Int)), (16, .int .i64 (i : Int))])
    (fun i => QI b5 (fr.take i) :: Blk b4 (.cells ⟨[.map (some b13)]⟩ t_map_api_Key_bool) :: KSet b13 ([] : List Key) :: Blk b3 (.cells ⟨[.func (.yield l1) #[] #[]]⟩ 103) :: Blk bf (.cells ⟨[.slice A fr.length cap]⟩ t_S_api_Key) :: Blk bs (.cells ⟨[.iface t_p_interleafref18_Book (gp b)]⟩ t_graph_Source) :: AI [] :: F)
    (fun i => i ≤ fr.length) (fun i => fr.length - i) 0 (h.keep [1, 2, 3, 4, 5, 14, 15, 16]) (Nat.zero_le _) ?_
  clear h a w; intro x a w hx h
  as_aux_lemma =>
   refine R.c_seq (R.c_region ?_)
   refine R.wv h (r_bin h rfl rfl (B.lss_int)) rfl ?_
   clear h a w; intro a w h
   refine R.wnil h (R.c_then ?_)
   refine R.c_seq ?_
   first
    | refine R.c_condD h rfl (fun ht1 => ?_) (fun ht1 => ?_)
    | refine R.c_condP h rfl (by first | (simp only [Bool.and_eq_true, Bool.or_eq_true, Bool.not_eq_true', decide_eq_true_eq, decide_eq_false_iff_not, ne_eq, Bool.not_eq_eq_eq_not, Bool.not_true, beq_iff_eq, bne_iff_ne]; exact Iff.rfl) | exact Iff.rfl) (fun ht1 => ?_) (fun ht1 => ?_)
   ·
    have hlt : x < fr.length := by omega
    obtain ⟨y, hyy⟩ : ∃ y, fr[x]? = some y := ⟨_, List.getElem?_eq_getElem hlt⟩
    refine R.c_skip ?_
    refine R.c_then ?_
    refine R.c_seq ?_
    refine R.c_block ?_
    refine R.c_seq (R.c_region ?_)
    refine R.wv h (r_elP h rfl rfl K.u_S_api_Key K.sz_api_Key (by first | exact Views.own 0 rfl | exact Views.own 1 rfl | exact Views.own 2 rfl | exact Views.own 3 rfl | exact Views.own 4 rfl | exact Views.own 5 rfl | assumption | exact Views.of_drop 1 (by assumption) | exact Views.of_drop 2 (by assumption) | exact Views.of_drop 3 (by assumption) | exact Views.of_drop 4 (by assumption) | exact Views.of_drop 5 (by assumption) | exact Views.of_drop 6 (by assumption) | exact Views.of_drop 7 (by assumption) | exact Views.of_drop 8 (by assumption) | exact Views.of_drop 9 (by assumption) | exact Views.of_drop 10 (by assumption) | exact Views.of_drop 11 (by assumption) | exact Views.of_drop 12 (by assumption)) (by first | omega | (simp; done)) (by first | omega | (simp only [List.length_cons, List.length_nil]; omega) | (simp; done) | (simp; omega))) rfl ?_
    clear h a w; intro a w h
    first
        | (refine R.wv h (r_elM h rfl K.u_api_Key rfl K.sz_api_Key rfl (by first | exact Views.own 0 rfl | exact Views.own 1 rfl | exact Views.own 2 rfl | exact Views.own 3 rfl | exact Views.own 4 rfl | exact Views.own 5 rfl | assumption | exact Views.of_drop 1 (by assumption) | exact Views.of_drop 2 (by assumption) | exact Views.of_drop 3 (by assumption) | exact Views.of_drop 4 (by assumption) | exact Views.of_drop 5 (by assumption) | exact Views.of_drop 6 (by assumption) | exact Views.of_drop 7 (by assumption) | exact Views.of_drop 8 (by assumption) | exact Views.of_drop 9 (by assumption) | exact Views.of_drop 10 (by assumption) | exact Views.of_drop 11 (by assumption) | exact Views.of_drop 12 (by assumption)) (by assumption)) rfl ?_)
        | (refine R.wv h (r_elMd h rfl K.u_api_Key rfl K.sz_api_Key rfl (by first | exact Views.own 0 rfl | exact Views.own 1 rfl | exact Views.own 2 rfl | exact Views.own 3 rfl | exact Views.own 4 rfl | exact Views.own 5 rfl | assumption | exact Views.of_drop 1 (by assumption) | exact Views.of_drop 2 (by assumption) | exact Views.of_drop 3 (by assumption) | exact Views.of_drop 4 (by assumption) | exact Views.of_drop 5 (by assumption) | exact Views.of_drop 6 (by assumption) | exact Views.of_drop 7 (by assumption) | exact Views.of_drop 8 (by assumption) | exact Views.of_drop 9 (by assumption) | exact Views.of_drop 10 (by assumption) | exact Views.of_drop 11 (by assumption) | exact Views.of_drop 12 (by assumption)) (by first | omega | (simp only [List.length_cons, List.length_nil]; omega) | (simp; done) | (simp; omega))) rfl ?_)
    clear h a w; intro a w h
    refine R.wl h rfl rfl (op_alloc h K.z_api_Key rfl ?_)
    clear h a w; intro b7 a w h
    rw [show (Value.agg (Array.replicate 32 (Value.int .u8 0))).cells = arr8 (List.replicate 32 0) from (arr8_zero 32).symm] at h
    first
        | (refine R.wl h rfl rfl (op_storeA8 h rfl rfl K.sz_api_Key (by first | rfl | assumption | (simp; done) | (simp; omega) | omega) 0 rfl (by first | rfl | (simp [arr8]; done) | (simp [arr8]; omega) | (simp [arr8]; assumption)) ?_))
        | (refine R.wl h rfl rfl (op_storeA8 h rfl rfl K.sz_api_Key (by first | rfl | assumption | (simp; done) | (simp; omega) | omega) 1 rfl (by first | rfl | (simp [arr8]; done) | (simp [arr8]; omega) | (simp [arr8]; assumption)) ?_))
        | (refine R.wl h rfl rfl (op_storeA8 h rfl rfl K.sz_api_Key (by first | rfl | assumption | (simp; done) | (simp; omega) | omega) 2 rfl (by first | rfl | (simp [arr8]; done) | (simp [arr8]; omega) | (simp [arr8]; assumption)) ?_))
        | (refine R.wl h rfl rfl (op_storeA8 h rfl rfl K.sz_api_Key (by first | rfl | assumption | (simp; done) | (simp; omega) | omega) 3 rfl (by first | rfl | (simp [arr8]; done) | (simp [arr8]; omega) | (simp [arr8]; assumption)) ?_))
        | (refine R.wl h rfl rfl (op_storeA8 h rfl rfl K.sz_api_Key (by first | rfl | assumption | (simp; done) | (simp; omega) | omega) 4 rfl (by first | rfl | (simp [arr8]; done) | (simp [arr8]; omega) | (simp [arr8]; assumption)) ?_))
        | (refine R.wl h rfl rfl (op_storeA8 h rfl rfl K.sz_api_Key (by first | rfl | assumption | (simp; done) | (simp; omega) | omega) 5 rfl (by first | rfl | (simp [arr8]; done) | (simp [arr8]; omega) | (simp [arr8]; assumption)) ?_))
    clear h a w; intro a w h
    (try simp only [List.set_cons_zero, List.set_cons_succ] at h)
    refine R.wnil h (R.c_then ?_)
    refine R.c_region ?_
    first
        | (refine R.wv h (r_loadA8 h rfl K.u_api_Key rfl K.sz_api_Key 0 rfl (by first | rfl | assumption | (simp; done) | (simp; omega) | omega)) rfl ?_)
        | (refine R.wv h (r_loadA8 h rfl K.u_api_Key rfl K.sz_api_Key 1 rfl (by first | rfl | assumption | (simp; done) | (simp; omega) | omega)) rfl ?_)
        | (refine R.wv h (r_loadA8 h rfl K.u_api_Key rfl K.sz_api_Key 2 rfl (by first | rfl | assumption | (simp; done) | (simp; omega) | omega)) rfl ?_)
        | (refine R.wv h (r_loadA8 h rfl K.u_api_Key rfl K.sz_api_Key 3 rfl (by first | rfl | assumption | (simp; done) | (simp; omega) | omega)) rfl ?_)
        | (refine R.wv h (r_loadA8 h rfl K.u_api_Key rfl K.sz_api_Key 4 rfl (by first | rfl | assumption | (simp; done) | (simp; omega) | omega)) rfl ?_)
        | (refine R.wv h (r_loadA8 h rfl K.u_api_Key rfl K.sz_api_Key 5 rfl (by first | rfl | assumption | (simp; done) | (simp; omega) | omega)) rfl ?_)
        | (refine R.wv h (r_loadCA h rfl K.u_api_Key rfl K.sz_api_Key (by assumption) (by first | rfl | assumption | (simp; done) | (simp; omega) | omega)) rfl ?_)
    clear h a w; intro a w h
    replace h := h.drop 1
    rw [show arr8 y.val = ⟨cellsA y⟩ from rfl] at h
    refine R.wl h rfl rfl (op_call h rfl K.go_graph_queue_api_Key_put (q_put s _ _ _ _ _ (by first | omega | (simp only [List.length_cons, List.length_nil]; omega) | (simp; done) | (simp; omega)) h.2) rfl ?_)
    clear h a w; intro z a w hz h
    (try simp only [List.set_cons_zero, List.set_cons_succ] at h)
    rw [show fr.take x ++ [y] = fr.take (x + 1) by rw [List.take_add_one, hyy]; rfl] at h
    refine R.wnil h ?_
    refine R.b_normal ?_
    refine R.c_then ?_
    refine R.c_region ?_
    refine R.wv h (r_bin h rfl rfl (B.add_i64 (by omega) (by omega))) rfl ?_
    clear h a w; intro a w h
    refine R.wv h (r_move h rfl) rfl ?_
    clear h a w; intro a w h
    refine R.wnil h ?_
    exact ⟨x + 1, R.at_ (h.keep [1, 2, 3, 4, 5, 14, 15, 16]), by omega, by omega⟩
   ·
    refine R.c_exit ?_
    refine R.e_then ?_
    refine R.e_then ?_
    refine R.e_here ?_
    refine R.c_then ?_
    rw [List.take_of_length_le (by omega)] at h
    refine R.c_seq (R.c_region ?_)
    refine R.wl h rfl rfl (op_call h rfl K.go_graph_queue_api_Key_each (q_each s _ _ _ h.2) rfl ?_)
    clear h a w; intro bx a w hbx h
    (try simp only [List.set_cons_zero, List.set_cons_succ] at h)
    refine R.wnil h (R.c_then ?_)
    refine R.c_block ?_
    refine R.c_range h rfl K.go_graph_queue_api_Key_each_1 (X := Bool) (fun b => if b then .ready else .done) (fun b => if b then none else some .ret)
      (fun _ => (if r.2 = 0 then AI r.1 else AD r.2) :: F) (fun b => b = decide (r.2 = 0)) (fun b => by cases b <;> simp) (fun l D w1 Lp hLp hs1 => ?_) ?_
    ·
     have hs2 : Sat s w1 (QI b5 fr :: Blk bx (.cells ⟨[gp b5]⟩ t_p_graph_queue_api_Key) :: Sep [Lp .ready none, Blk D (.deferred (some [])), KSet b13 ([] : List Key), Blk b4 (.cells ⟨[.map (some b13)]⟩ t_map_api_Key_bool), Blk b3 (.cells ⟨[.func (.yield l1) #[] #[]]⟩ 103), Blk bs (.cells ⟨[.iface t_p_interleafref18_Book (gp b)]⟩ t_graph_Source), AI []] :: F) := (by have q := hs1; replace q := (q.front 7 rfl).tail; replace q := q.front 8 rfl; replace q := q.front 8 rfl; replace q := q.front 8 rfl; replace q := q.front 7 rfl; replace q := q.front 8 rfl; replace q := q.front 6 rfl; replace q := q.front 6 rfl; replace q := q.sepN 7; replace q := q.front 1 rfl; replace q := q.front 2 rfl; exact q)
     refine (q_each1 s w1 l b5 bx (X := Nat × List Key × List Key) (Y := Unit) (fun x => x.2.2) (fun x => x.1)
       (fun x => Sep [Lp .ready none, Blk D (.deferred (some [])), KSet b13 x.2.1, Blk b4 (.cells ⟨[.map (some b13)]⟩ t_map_api_Key_bool), Blk b3 (.cells ⟨[.func (.yield l1) #[] #[]]⟩ 103), Blk bs (.cells ⟨[.iface t_p_interleafref18_Book (gp b)]⟩ t_graph_Source), AI x.2.1])
       (fun _ => Sep [Lp .done (some .ret), Blk D (.deferred (some [])), AD r.2]) (fun x => BfsOk (nsOf xs) x.1 x.2.1 x.2.2 r) (fun _ => r.2 ≠ 0) F (fun y hy => by have := hy.2.2; omega)
       (fun y k rest w hxx hk hw => ?hy) (m, [], fr) hr hs2).mono ?fin
     case fin =>
       rintro e W3 ⟨z, rfl, hz, hφ⟩
       refine ⟨⟨_, rfl⟩, ?_⟩
       rcases z with y | y
       · obtain ⟨hφ1, hφ2⟩ : BfsOk (nsOf xs) y.1 y.2.1 y.2.2 r ∧ y.2.2 = [] := hφ
         obtain ⟨m1, lst, q1⟩ := y
         simp only at hφ1 hφ2
         subst hφ2
         have hr1 := hφ1.done
         subst hr1
         exact ⟨true, rfl, (by have q := hz.unsep; replace q := (q.front 2 rfl).tail; replace q := (q.front 2 rfl).tail; replace q := (q.front 2 rfl).tail; replace q := (q.front 2 rfl).tail; replace q := q.front 2 rfl; replace q := q.front 2 rfl; replace q := q.front 2 rfl; exact q)⟩
       · refine ⟨false, by simpa using hφ, ?_⟩
         rw [if_neg hφ]
         exact hz.unsep
     subst hLp
     clear hs2 hs1 h
     obtain ⟨m1, lst, q1⟩ := y
     simp only at hk hxx hw
     subst hk
     replace hw := (hw.front 2 rfl).unsep
     refine R.yieldAt (vs := [keyV k]) (pvs := [(24, keyV k)]) hw 0 rfl rfl (by first | rfl | simp) rfl rfl (fun a h => ?_)
     clear hw
     refine R.c_region ?_
     refine R.wl h rfl rfl (op_alloc h K.z_api_Key rfl ?_)
     clear h a w; intro b8 a w h
     rw [show (Value.agg (Array.replicate 32 (Value.int .u8 0))).cells = arr8 (List.replicate 32 0) from (arr8_zero 32).symm] at h
     first
          | (refine R.wl h rfl rfl (op_storeA8 h rfl rfl K.sz_api_Key (by first | rfl | assumption | (simp; done) | (simp; omega) | omega) 0 rfl (by first | rfl | (simp [arr8]; done) | (simp [arr8]; omega) | (simp [arr8]; assumption)) ?_))
          | (refine R.wl h rfl rfl (op_storeA8 h rfl rfl K.sz_api_Key (by first | rfl | assumption | (simp; done) | (simp; omega) | omega) 1 rfl (by first | rfl | (simp [arr8]; done) | (simp [arr8]; omega) | (simp [arr8]; assumption)) ?_))
          | (refine R.wl h rfl rfl (op_storeA8 h rfl rfl K.sz_api_Key (by first | rfl | assumption | (simp; done) | (simp; omega) | omega) 2 rfl (by first | rfl | (simp [arr8]; done) | (simp [arr8]; omega) | (simp [arr8]; assumption)) ?_))
          | (refine R.wl h rfl rfl (op_storeA8 h rfl rfl K.sz_api_Key (by first | rfl | assumption | (simp; done) | (simp; omega) | omega) 3 rfl (by first | rfl | (simp [arr8]; done) | (simp [arr8]; omega) | (simp [arr8]; assumption)) ?_))
          | (refine R.wl h rfl rfl (op_storeA8 h rfl rfl K.sz_api_Key (by first | rfl | assumption | (simp; done) | (simp; omega) | omega) 4 rfl (by first | rfl | (simp [arr8]; done) | (simp [arr8]; omega) | (simp [arr8]; assumption)) ?_))
          | (refine R.wl h rfl rfl (op_storeA8 h rfl rfl K.sz_api_Key (by first | rfl | assumption | (simp; done) | (simp; omega) | omega) 5 rfl (by first | rfl | (simp [arr8]; done) | (simp [arr8]; omega) | (simp [arr8]; assumption)) ?_))
     clear h a w; intro a w h
     (try simp only [List.set_cons_zero, List.set_cons_succ] at h)
     refine R.wnil h ?_
     refine R.begin_ h 1 rfl (fun a w h => ?_)
     simp only [List.set_cons_zero, List.set_cons_succ] at h
     refine R.c_block ?_
     refine R.c_seq ?_
     refine R.c_seq (R.c_region ?_)
     first
          | (refine R.wv h (r_ldN h rfl K.u_map_api_Key_bool rfl 0 rfl rfl) rfl ?_)
          | (refine R.wv h (r_ldN h rfl K.u_map_api_Key_bool rfl 1 rfl rfl) rfl ?_)
          | (refine R.wv h (r_ldN h rfl K.u_map_api_Key_bool rfl 2 rfl rfl) rfl ?_)
          | (refine R.wv h (r_ldN h rfl K.u_map_api_Key_bool rfl 3 rfl rfl) rfl ?_)
          | (refine R.wv h (r_ldN h rfl K.u_map_api_Key_bool rfl 4 rfl rfl) rfl ?_)
          | (refine R.wv h (r_ldN h rfl K.u_map_api_Key_bool rfl 5 rfl rfl) rfl ?_)
          | (refine R.wv h (r_ldN h rfl K.u_map_api_Key_bool rfl 6 rfl rfl) rfl ?_)
          | (refine R.wv h (r_load h rfl K.u_map_api_Key_bool rfl 0 rfl rfl) rfl ?_)
          | (refine R.wv h (r_load h rfl K.u_map_api_Key_bool rfl 1 rfl rfl) rfl ?_)
          | (refine R.wv h (r_load h rfl K.u_map_api_Key_bool rfl 2 rfl rfl) rfl ?_)
          | (refine R.wv h (r_load h rfl K.u_map_api_Key_bool rfl 3 rfl rfl) rfl ?_)
          | (refine R.wv h (r_load h rfl K.u_map_api_Key_bool rfl 4 rfl rfl) rfl ?_)
          | (refine R.wv h (r_load h rfl K.u_map_api_Key_bool rfl 5 rfl rfl) rfl ?_)
          | (refine R.wv h (r_load1 h rfl K.u_map_api_Key_bool rfl (by assumption)) rfl ?_)
     clear h a w; intro a w h
     first
          | (refine R.wv h (r_loadA8 h rfl K.u_api_Key rfl K.sz_api_Key 0 rfl (by first | rfl | assumption | (simp; done) | (simp; omega) | omega)) rfl ?_)
          | (refine R.wv h (r_loadA8 h rfl K.u_api_Key rfl K.sz_api_Key 1 rfl (by first | rfl | assumption | (simp; done) | (simp; omega) | omega)) rfl ?_)
          | (refine R.wv h (r_loadA8 h rfl K.u_api_Key rfl K.sz_api_Key 2 rfl (by first | rfl | assumption | (simp; done) | (simp; omega) | omega)) rfl ?_)
          | (refine R.wv h (r_loadA8 h rfl K.u_api_Key rfl K.sz_api_Key 3 rfl (by first | rfl | assumption | (simp; done) | (simp; omega) | omega)) rfl ?_)
          | (refine R.wv h (r_loadA8 h rfl K.u_api_Key rfl K.sz_api_Key 4 rfl (by first | rfl | assumption | (simp; done) | (simp; omega) | omega)) rfl ?_)
          | (refine R.wv h (r_loadA8 h rfl K.u_api_Key rfl K.sz_api_Key 5 rfl (by first | rfl | assumption | (simp; done) | (simp; omega) | omega)) rfl ?_)
          | (refine R.wv h (r_loadCA h rfl K.u_api_Key rfl K.sz_api_Key (by assumption) (by first | rfl | assumption | (simp; done) | (simp; omega) | omega)) rfl ?_)
     clear h a w; intro a w h
     refine R.wv h (r_klook h rfl rfl K.u_map_api_Key_bool K.z_bool K.u_api_Key K.u_uint8 K.sz_uint8 3 rfl) rfl ?_
     clear h a w; intro a w h
     refine R.wnil h (R.c_then ?_)
     first
      | refine R.c_condD h rfl (fun ht2 => ?_) (fun ht2 => ?_)
      | refine R.c_condP h rfl (by first | (simp only [Bool.and_eq_true, Bool.or_eq_true, Bool.not_eq_true', decide_eq_true_eq, decide_eq_false_iff_not, ne_eq, Bool.not_eq_eq_eq_not, Bool.not_true, beq_iff_eq, bne_iff_ne]; exact Iff.rfl) | exact Iff.rfl) (fun ht2 => ?_) (fun ht2 => ?_)
     ·
      as_aux_lemma =>
       refine R.c_exit ?_
       refine R.e_then ?_
       refine R.e_here ?_
       obtain ⟨m2, em, hok⟩ := hxx.skip ht2
       refine R.end_go (ds := []) h 1 rfl (fun w hw => ⟨.inl (m2, lst, rest), rfl, (by have q := hw; replace q := (q.front 0 rfl).tail; replace q := q.front 6 rfl; replace q := q.front 6 rfl; replace q := q.front 6 rfl; replace q := q.front 6 rfl; replace q := q.front 6 rfl; replace q := q.front 6 rfl; replace q := q.front 6 rfl; replace q := q.sepN 7; replace q := q.front 2 rfl; replace q := q.front 2 rfl; exact q), hok, ?_⟩)
       rw [em]; exact Nat.lt_succ_self _
     ·
      refine R.c_skip ?_
      refine R.c_then ?_
      refine R.c_seq (R.c_region ?_)
      first
            | (refine R.wv h (r_ldN h rfl K.u_map_api_Key_bool rfl 0 rfl rfl) rfl ?_)
            | (refine R.wv h (r_ldN h rfl K.u_map_api_Key_bool rfl 1 rfl rfl) rfl ?_)
            | (refine R.wv h (r_ldN h rfl K.u_map_api_Key_bool rfl 2 rfl rfl) rfl ?_)
            | (refine R.wv h (r_ldN h rfl K.u_map_api_Key_bool rfl 3 rfl rfl) rfl ?_)
            | (refine R.wv h (r_ldN h rfl K.u_map_api_Key_bool rfl 4 rfl rfl) rfl ?_)
            | (refine R.wv h (r_ldN h rfl K.u_map_api_Key_bool rfl 5 rfl rfl) rfl ?_)
            | (refine R.wv h (r_ldN h rfl K.u_map_api_Key_bool rfl 6 rfl rfl) rfl ?_)
            | (refine R.wv h (r_load h rfl K.u_map_api_Key_bool rfl 0 rfl rfl) rfl ?_)
            | (refine R.wv h (r_load h rfl K.u_map_api_Key_bool rfl 1 rfl rfl) rfl ?_)
            | (refine R.wv h (r_load h rfl K.u_map_api_Key_bool rfl 2 rfl rfl) rfl ?_)
            | (refine R.wv h (r_load h rfl K.u_map_api_Key_bool rfl 3 rfl rfl) rfl ?_)
            | (refine R.wv h (r_load h rfl K.u_map_api_Key_bool rfl 4 rfl rfl) rfl ?_)
            | (refine R.wv h (r_load h rfl K.u_map_api_Key_bool rfl 5 rfl rfl) rfl ?_)
            | (refine R.wv h (r_load1 h rfl K.u_map_api_Key_bool rfl (by assumption)) rfl ?_)
      clear h a w; intro a w h
      first
            | (refine R.wv h (r_loadA8 h rfl K.u_api_Key rfl K.sz_api_Key 0 rfl (by first | rfl | assumption | (simp; done) | (simp; omega) | omega)) rfl ?_)
            | (refine R.wv h (r_loadA8 h rfl K.u_api_Key rfl K.sz_api_Key 1 rfl (by first | rfl | assumption | (simp; done) | (simp; omega) | omega)) rfl ?_)
            | (refine R.wv h (r_loadA8 h rfl K.u_api_Key rfl K.sz_api_Key 2 rfl (by first | rfl | assumption | (simp; done) | (simp; omega) | omega)) rfl ?_)
            | (refine R.wv h (r_loadA8 h rfl K.u_api_Key rfl K.sz_api_Key 3 rfl (by first | rfl | assumption | (simp; done) | (simp; omega) | omega)) rfl ?_)
            | (refine R.wv h (r_loadA8 h rfl K.u_api_Key rfl K.sz_api_Key 4 rfl (by first | rfl | assumption | (simp; done) | (simp; omega) | omega)) rfl ?_)
            | (refine R.wv h (r_loadA8 h rfl K.u_api_Key rfl K.sz_api_Key 5 rfl (by first | rfl | assumption | (simp; done) | (simp; omega) | omega)) rfl ?_)
            | (refine R.wv h (r_loadCA h rfl K.u_api_Key rfl K.sz_api_Key (by assumption) (by first | rfl | assumption | (simp; done) | (simp; omega) | omega)) rfl ?_)
      clear h a w; intro a w h
      refine R.wl h rfl rfl (op_kput h rfl rfl rfl K.u_map_api_Key_bool K.u_api_Key K.u_uint8 K.sz_uint8 3 rfl ht2 ?_)
      clear h a w; intro a w h
      simp only [List.set_cons_zero, List.set_cons_succ] at h
      refine R.wnil h (R.c_then ?_)
      refine R.c_seq (R.c_region ?_)
      first
            | (refine R.wv h (r_ldN h rfl K.u_graph_Source rfl 0 rfl rfl) rfl ?_)
            | (refine R.wv h (r_ldN h rfl K.u_graph_Source rfl 1 rfl rfl) rfl ?_)
            | (refine R.wv h (r_ldN h rfl K.u_graph_Source rfl 2 rfl rfl) rfl ?_)
            | (refine R.wv h (r_ldN h rfl K.u_graph_Source rfl 3 rfl rfl) rfl ?_)
            | (refine R.wv h (r_ldN h rfl K.u_graph_Source rfl 4 rfl rfl) rfl ?_)
            | (refine R.wv h (r_ldN h rfl K.u_graph_Source rfl 5 rfl rfl) rfl ?_)
            | (refine R.wv h (r_ldN h rfl K.u_graph_Source rfl 6 rfl rfl) rfl ?_)
            | (refine R.wv h (r_load h rfl K.u_graph_Source rfl 0 rfl rfl) rfl ?_)
            | (refine R.wv h (r_load h rfl K.u_graph_Source rfl 1 rfl rfl) rfl ?_)
            | (refine R.wv h (r_load h rfl K.u_graph_Source rfl 2 rfl rfl) rfl ?_)
            | (refine R.wv h (r_load h rfl K.u_graph_Source rfl 3 rfl rfl) rfl ?_)
            | (refine R.wv h (r_load h rfl K.u_graph_Source rfl 4 rfl rfl) rfl ?_)
            | (refine R.wv h (r_load h rfl K.u_graph_Source rfl 5 rfl rfl) rfl ?_)
            | (refine R.wv h (r_load1 h rfl K.u_graph_Source rfl (by assumption)) rfl ?_)
      clear h a w; intro a w h
      first
            | (refine R.wv h (r_loadA8 h rfl K.u_api_Key rfl K.sz_api_Key 0 rfl (by first | rfl | assumption | (simp; done) | (simp; omega) | omega)) rfl ?_)
            | (refine R.wv h (r_loadA8 h rfl K.u_api_Key rfl K.sz_api_Key 1 rfl (by first | rfl | assumption | (simp; done) | (simp; omega) | omega)) rfl ?_)
            | (refine R.wv h (r_loadA8 h rfl K.u_api_Key rfl K.sz_api_Key 2 rfl (by first | rfl | assumption | (simp; done) | (simp; omega) | omega)) rfl ?_)
            | (refine R.wv h (r_loadA8 h rfl K.u_api_Key rfl K.sz_api_Key 3 rfl (by first | rfl | assumption | (simp; done) | (simp; omega) | omega)) rfl ?_)
            | (refine R.wv h (r_loadA8 h rfl K.u_api_Key rfl K.sz_api_Key 4 rfl (by first | rfl | assumption | (simp; done) | (simp; omega) | omega)) rfl ?_)
            | (refine R.wv h (r_loadA8 h rfl K.u_api_Key rfl K.sz_api_Key 5 rfl (by first | rfl | assumption | (simp; done) | (simp; omega) | omega)) rfl ?_)
            | (refine R.wv h (r_loadCA h rfl K.u_api_Key rfl K.sz_api_Key (by assumption) (by first | rfl | assumption | (simp; done) | (simp; omega) | omega)) rfl ?_)
      clear h a w; intro a w h
      refine R.wl h rfl rfl (op_invoke (vs := [keyV k]) h rfl rfl (fun _ => by kernel_rfl) K.go_ref18_Book_Commit (book_Commit s _ b nv xs k _ (by exact BookV.of_drop 10 hB) hl h.2) rfl ?_)
      clear h a w; intro z a w hz h
      obtain ⟨C, e, hcv, hC, hC1, hce⟩ := comV_shape xs k
      rw [hcv] at h
      refine R.wv h (r_move h rfl) rfl ?_
      clear h a w; intro a w h
      refine R.wv h (r_extractN h rfl rfl) rfl ?_
      clear h a w; intro a w h
      refine R.wv h (r_extractN h rfl rfl) rfl ?_
      clear h a w; intro a w h
      refine R.wl h rfl rfl (op_alloc h K.z_api_Commit rfl ?_)
      clear h a w; intro b9 a w h
      change St 62 s a w _ (Blk b9 (.cells ⟨comC (BA.zero 32) (.slice none 0 0) (sv [])⟩ t_api_Commit) :: _) at h
      have lc1 := comC_len (BA.zero 32) (.slice none 0 0) (sv [])
      first
            | (refine R.wl h rfl rfl (op_stA h rfl rfl K.sz_api_Commit (by first | exact Row.len _ | rfl | assumption | (simp; done) | (simp; omega) | omega) (by first | exact Row.one _ | exact bs_one _ | assumption | (simp; done) | (simp; (repeat' apply And.intro) <;> first | rfl | assumption)) 0 rfl (by first | rfl | assumption | (simp; done) | (simp; omega) | omega) ?_))
            | (refine R.wl h rfl rfl (op_stA h rfl rfl K.sz_api_Commit (by first | exact Row.len _ | rfl | assumption | (simp; done) | (simp; omega) | omega) (by first | exact Row.one _ | exact bs_one _ | assumption | (simp; done) | (simp; (repeat' apply And.intro) <;> first | rfl | assumption)) 1 rfl (by first | rfl | assumption | (simp; done) | (simp; omega) | omega) ?_))
            | (refine R.wl h rfl rfl (op_stA h rfl rfl K.sz_api_Commit (by first | exact Row.len _ | rfl | assumption | (simp; done) | (simp; omega) | omega) (by first | exact Row.one _ | exact bs_one _ | assumption | (simp; done) | (simp; (repeat' apply And.intro) <;> first | rfl | assumption)) 2 rfl (by first | rfl | assumption | (simp; done) | (simp; omega) | omega) ?_))
            | (refine R.wl h rfl rfl (op_stA h rfl rfl K.sz_api_Commit (by first | exact Row.len _ | rfl | assumption | (simp; done) | (simp; omega) | omega) (by first | exact Row.one _ | exact bs_one _ | assumption | (simp; done) | (simp; (repeat' apply And.intro) <;> first | rfl | assumption)) 3 rfl (by first | rfl | assumption | (simp; done) | (simp; omega) | omega) ?_))
            | (refine R.wl h rfl rfl (op_stA h rfl rfl K.sz_api_Commit (by first | exact Row.len _ | rfl | assumption | (simp; done) | (simp; omega) | omega) (by first | exact Row.one _ | exact bs_one _ | assumption | (simp; done) | (simp; (repeat' apply And.intro) <;> first | rfl | assumption)) 4 rfl (by first | rfl | assumption | (simp; done) | (simp; omega) | omega) ?_))
            | (refine R.wl h rfl rfl (op_stA h rfl rfl K.sz_api_Commit (by first | exact Row.len _ | rfl | assumption | (simp; done) | (simp; omega) | omega) (by first | exact Row.one _ | exact bs_one _ | assumption | (simp; done) | (simp; (repeat' apply And.intro) <;> first | rfl | assumption)) 5 rfl (by first | rfl | assumption | (simp; done) | (simp; omega) | omega) ?_))
      clear h a w; intro a w h
      (try simp only [List.set_cons_zero, List.set_cons_succ] at h)
      refine R.wv h (r_assign h rfl) rfl ?_
      clear h a w; intro a w h
      refine R.wnil h (R.c_then ?_)
      refine R.c_seq ?_
      refine R.c_seq (R.c_region ?_)
      refine R.wv h (r_move h rfl) rfl ?_
      clear h a w; intro a w h
      refine R.wv h (r_bin h rfl rfl (B.eql_int)) rfl ?_
      clear h a w; intro a w h
      refine R.wv h (r_move h rfl) rfl ?_
      clear h a w; intro a w h
      refine R.wvG h (by first | exact .t rfl | exact .f rfl | exact .gt rfl | exact .gf rfl) (fun hg => by (try simp only [↓gval_on hg, ↓gval_and hg] at h); (have hg2 := hg; (try simp only [Bool.and_eq_true, Bool.or_eq_true, Bool.not_eq_true', decide_eq_true_eq, decide_eq_false_iff_not] at hg2)); first | exact r_ldN h rfl K.u_map_api_Key_bool rfl 0 rfl rfl | exact r_ldN h rfl K.u_map_api_Key_bool rfl 1 rfl rfl | exact r_ldN h rfl K.u_map_api_Key_bool rfl 2 rfl rfl | exact r_ldN h rfl K.u_map_api_Key_bool rfl 3 rfl rfl | exact r_ldN h rfl K.u_map_api_Key_bool rfl 4 rfl rfl | exact r_ldN h rfl K.u_map_api_Key_bool rfl 5 rfl rfl | exact r_ldN h rfl K.u_map_api_Key_bool rfl 6 rfl rfl | exact r_load h rfl K.u_map_api_Key_bool rfl 0 rfl rfl | exact r_load h rfl K.u_map_api_Key_bool rfl 1 rfl rfl | exact r_load h rfl K.u_map_api_Key_bool rfl 2 rfl rfl | exact r_load h rfl K.u_map_api_Key_bool rfl 3 rfl rfl | exact r_load h rfl K.u_map_api_Key_bool rfl 4 rfl rfl | exact r_load h rfl K.u_map_api_Key_bool rfl 5 rfl rfl | exact r_load1 h rfl K.u_map_api_Key_bool rfl (by assumption)) rfl ?_
      clear h a w; intro a w h
      refine R.wvG h (by first | exact .t rfl | exact .f rfl | exact .gt rfl | exact .gf rfl) (fun hg => by simp only [↓gval_on hg] at h; exact r_klen h rfl K.u_map_api_Key_bool 4 rfl) rfl ?_
      clear h a w; intro a w h
      refine R.wvG h (by first | exact .t rfl | exact .f rfl | exact .gt rfl | exact .gf rfl) (fun hg => by (try simp only [↓gval_on hg, ↓gval_and hg] at h); (have hg2 := hg; (try simp only [Bool.and_eq_true, Bool.or_eq_true, Bool.not_eq_true', decide_eq_true_eq, decide_eq_false_iff_not] at hg2)); first | exact r_bin h rfl rfl (B.gtr_int)) rfl ?_
      clear h a w; intro a w h
      first
            | (refine R.wv h (r_pickA h rfl rfl rfl) rfl ?_)
            | (refine R.wv h (r_pickO h rfl rfl rfl) rfl ?_)
            | (refine R.wv h (r_pick_true h rfl rfl) rfl ?_)
            | (refine R.wv h (r_pick_false h rfl rfl) rfl ?_)
            | (refine R.wv h (r_pick h rfl rfl rfl) rfl ?_)
      clear h a w; intro a w h
      refine R.wnil h (R.c_then ?_)
      refine R.c_cond h rfl (fun ht3 => ?_) (fun _ => ?_)
      · exfalso
        have := hxx.lt
        simp at ht3
        omega
      refine R.c_skip ?_
      refine R.c_then ?_
      refine R.c_seq ?_
      refine R.c_seq (R.c_region ?_)
      refine R.wv h (r_ldN h rfl Try.underlying103 rfl 6 rfl rfl) rfl ?_
      clear h a w; intro a w h
      first
            | (refine R.wv h (r_loadA8 h rfl K.u_api_Key rfl K.sz_api_Key 0 rfl (by first | rfl | assumption | (simp; done) | (simp; omega) | omega)) rfl ?_)
            | (refine R.wv h (r_loadA8 h rfl K.u_api_Key rfl K.sz_api_Key 1 rfl (by first | rfl | assumption | (simp; done) | (simp; omega) | omega)) rfl ?_)
            | (refine R.wv h (r_loadA8 h rfl K.u_api_Key rfl K.sz_api_Key 2 rfl (by first | rfl | assumption | (simp; done) | (simp; omega) | omega)) rfl ?_)
            | (refine R.wv h (r_loadA8 h rfl K.u_api_Key rfl K.sz_api_Key 3 rfl (by first | rfl | assumption | (simp; done) | (simp; omega) | omega)) rfl ?_)
            | (refine R.wv h (r_loadA8 h rfl K.u_api_Key rfl K.sz_api_Key 4 rfl (by first | rfl | assumption | (simp; done) | (simp; omega) | omega)) rfl ?_)
            | (refine R.wv h (r_loadA8 h rfl K.u_api_Key rfl K.sz_api_Key 5 rfl (by first | rfl | assumption | (simp; done) | (simp; omega) | omega)) rfl ?_)
            | (refine R.wv h (r_loadCA h rfl K.u_api_Key rfl K.sz_api_Key (by assumption) (by first | rfl | assumption | (simp; done) | (simp; omega) | omega)) rfl ?_)
      clear h a w; intro a w h
      refine R.wv h (r_move h rfl) rfl ?_
      clear h a w; intro a w h
      refine R.wyield (vs := [keyV k, .int .i64 e]) h rfl rfl rfl (hy _ lst k e _ (by have := hxx.lt; omega) (h.2.front 8 rfl)) ?_
      clear h a w; intro z a w hz h
      refine R.wv h (r_not h rfl) rfl ?_
      clear h a w; intro a w h
      refine R.wv h (r_move h rfl) rfl ?_
      clear h a w; intro a w h
      refine R.wvG h (by first | exact .t rfl | exact .f rfl | exact .gt rfl | exact .gf rfl) (fun hg => by (try simp only [↓gval_on hg, ↓gval_and hg] at h); (have hg2 := hg; (try simp only [Bool.and_eq_true, Bool.or_eq_true, Bool.not_eq_true', decide_eq_true_eq, decide_eq_false_iff_not] at hg2)); first | exact r_move h rfl) rfl ?_
      clear h a w; intro a w h
      refine R.wvG h (by first | exact .t rfl | exact .f rfl | exact .gt rfl | exact .gf rfl) (fun hg => by (try simp only [↓gval_on hg, ↓gval_and hg] at h); (have hg2 := hg; (try simp only [Bool.and_eq_true, Bool.or_eq_true, Bool.not_eq_true', decide_eq_true_eq, decide_eq_false_iff_not] at hg2)); first | exact r_bin h rfl rfl (B.neq_int)) rfl ?_
      clear h a w; intro a w h
      first
            | (refine R.wv h (r_pickA h rfl rfl rfl) rfl ?_)
            | (refine R.wv h (r_pickO h rfl rfl rfl) rfl ?_)
            | (refine R.wv h (r_pick_true h rfl rfl) rfl ?_)
            | (refine R.wv h (r_pick_false h rfl rfl) rfl ?_)
            | (refine R.wv h (r_pick h rfl rfl rfl) rfl ?_)
      clear h a w; intro a w h
      refine R.wnil h (R.c_then ?_)
      refine R.c_condP (p := e ≠ 0) h rfl (by by_cases he : e = 0 <;> simp [he]) (fun ht4 => ?_) (fun ht4 => ?_)
      ·
       as_aux_lemma =>
        refine R.c_ret ?_
        obtain ⟨he2, hfn⟩ : e = 2 ∧ findN xs k = none := by
          rcases hce with ⟨he, _⟩ | hq
          · exact absurd he ht4
          · exact hq
        have hr2 := hxx.lost ht2 (by rw [look_find, hfn]; rfl)
        subst hr2
        subst he2
        refine R.end_ret (ds := []) h 3 rfl (fun w hw => ⟨.inr (), rfl, ?_, by show (2 : Int) ≠ 0; decide⟩)
        exact (by have q := hw; replace q := (q.front 1 rfl).tail; replace q := (q.front 1 rfl).tail; replace q := (q.front 3 rfl).tail; replace q := (q.front 3 rfl).tail; replace q := (q.front 3 rfl).tail; replace q := (q.front 3 rfl).tail; replace q := (q.front 3 rfl).tail; replace q := (q.front 3 rfl).tail; replace q := q.front 0 rfl; replace q := q.front 2 rfl; replace q := q.front 2 rfl; replace q := q.sepN 3; exact q)
      ·
       have he : e = 0 := by simpa using ht4
       subst he
       obtain ⟨y, hfy, rfl⟩ : ∃ y, findN xs k = some y ∧ C = comC y.chart y.pv (sv y.note) := by
         rcases hce with ⟨_, hq⟩ | ⟨hq, _⟩
         · exact hq
         · cases hq
       obtain ⟨hmem, hkey⟩ := findN_mem hfy
       have hpl := hp y hmem
       have hpv := hB.2.2 y hmem
       obtain ⟨m2, em, hok⟩ := hxx.step ht2 (by rw [look_find, hfy]; rfl) hpl
       have hql := hok.2.2
       simp only [List.length_append] at hql
       refine R.c_skip ?_
       refine R.c_then ?_
       refine R.c_seq (R.c_region ?_)
       refine R.wv h (r_fieldAddr h 32 rfl K.u_api_Commit rfl K.sz_S_api_Key rfl rfl) rfl ?_
       clear h a w; intro a w h
       first
              | (refine R.wv h (r_ldN h rfl K.u_S_api_Key rfl 0 rfl rfl) rfl ?_)
              | (refine R.wv h (r_ldN h rfl K.u_S_api_Key rfl 1 rfl rfl) rfl ?_)
              | (refine R.wv h (r_ldN h rfl K.u_S_api_Key rfl 2 rfl rfl) rfl ?_)
              | (refine R.wv h (r_ldN h rfl K.u_S_api_Key rfl 3 rfl rfl) rfl ?_)
              | (refine R.wv h (r_ldN h rfl K.u_S_api_Key rfl 4 rfl rfl) rfl ?_)
              | (refine R.wv h (r_ldN h rfl K.u_S_api_Key rfl 5 rfl rfl) rfl ?_)
              | (refine R.wv h (r_ldN h rfl K.u_S_api_Key rfl 6 rfl rfl) rfl ?_)
              | (refine R.wv h (r_ldC (o := 32) h rfl K.u_S_api_Key rfl 0 rfl) rfl ?_)
              | (refine R.wv h (r_ldC (o := 32) h rfl K.u_S_api_Key rfl 1 rfl) rfl ?_)
              | (refine R.wv h (r_ldC (o := 32) h rfl K.u_S_api_Key rfl 2 rfl) rfl ?_)
              | (refine R.wv h (r_ldC (o := 32) h rfl K.u_S_api_Key rfl 3 rfl) rfl ?_)
              | (refine R.wv h (r_ldC (o := 32) h rfl K.u_S_api_Key rfl 4 rfl) rfl ?_)
              | (refine R.wv h (r_ldC (o := 32) h rfl K.u_S_api_Key rfl 5 rfl) rfl ?_)
              | (refine R.wv h (r_ldC (o := 32) h rfl K.u_S_api_Key rfl 6 rfl) rfl ?_)
              | (refine R.wv h (r_load h rfl K.u_S_api_Key rfl 0 rfl rfl) rfl ?_)
              | (refine R.wv h (r_load h rfl K.u_S_api_Key rfl 1 rfl rfl) rfl ?_)
              | (refine R.wv h (r_load h rfl K.u_S_api_Key rfl 2 rfl rfl) rfl ?_)
              | (refine R.wv h (r_load h rfl K.u_S_api_Key rfl 3 rfl rfl) rfl ?_)
              | (refine R.wv h (r_load h rfl K.u_S_api_Key rfl 4 rfl rfl) rfl ?_)
              | (refine R.wv h (r_load h rfl K.u_S_api_Key rfl 5 rfl rfl) rfl ?_)
              | (refine R.wv h (r_load1 h rfl K.u_S_api_Key rfl (by assumption)) rfl ?_)
       clear h a w; intro a w h
       refine R.wv h (r_lenV h rfl K.u_S_api_Key (by first | exact Views.own 0 rfl | exact Views.own 1 rfl | exact Views.own 2 rfl | exact Views.own 3 rfl | exact Views.own 4 rfl | exact Views.own 5 rfl | assumption | exact Views.of_drop 1 (by assumption) | exact Views.of_drop 2 (by assumption) | exact Views.of_drop 3 (by assumption) | exact Views.of_drop 4 (by assumption) | exact Views.of_drop 5 (by assumption) | exact Views.of_drop 6 (by assumption) | exact Views.of_drop 7 (by assumption) | exact Views.of_drop 8 (by assumption) | exact Views.of_drop 9 (by assumption) | exact Views.of_drop 10 (by assumption) | exact Views.of_drop 11 (by assumption) | exact Views.of_drop 12 (by assumption))) rfl ?_
       clear h a w; intro a w h
       refine R.wv h (r_move h rfl) rfl ?_
       clear h a w; intro a w h
       refine R.wnil h (R.c_then ?_)
       refine R.c_block ?_
       refine R.c_loop (X := Nat) (fun j => [(5, gp b5), (53, y.pv), (54, .int .i64 (y.pars.length : Int)), (55, .int .i64 (j : Int))])
         (fun j => QI b5 (rest ++ y.pars.take j) :: LpI l .busy none 62 _ _ _ _ :: Blk D (.deferred (some [])) :: KSet b13 (lst ++ [k]) :: Blk b4 (.cells ⟨[.map (some b13)]⟩ t_map_api_Key_bool) :: Blk b3 (.cells ⟨[.func (.yield l1) #[] #[]]⟩ 103) :: Blk bs (.cells ⟨[.iface t_p_interleafref18_Book (gp b)]⟩ t_graph_Source) :: AI (lst ++ [k]) :: Blk bx (.cells ⟨[gp b5]⟩ t_p_graph_queue_api_Key) :: F)
         (fun j => j ≤ y.pars.length) (fun j => y.pars.length - j) 0 (⟨(h.keep [5, 53, 54, 55]).1, by simpa using (by have q := h.2; replace q := (q.front 1 rfl).tail; replace q := (q.front 1 rfl).tail; replace q := q.front 8 rfl; replace q := q.front 1 rfl; replace q := q.front 7 rfl; replace q := q.front 7 rfl; replace q := q.front 7 rfl; replace q := q.front 7 rfl; replace q := q.front 7 rfl; replace q := q.front 7 rfl; replace q := q.front 8 rfl; exact q)⟩) (Nat.zero_le _) ?_
       clear h a w; intro j a w hj h
       as_aux_lemma =>
        refine R.c_seq (R.c_region ?_)
        refine R.wv h (r_bin h rfl rfl (B.lss_int)) rfl ?_
        clear h a w; intro a w h
        refine R.wnil h (R.c_then ?_)
        refine R.c_seq ?_
        first
         | refine R.c_condD h rfl (fun ht5 => ?_) (fun ht5 => ?_)
         | refine R.c_condP h rfl (by first | (simp only [Bool.and_eq_true, Bool.or_eq_true, Bool.not_eq_true', decide_eq_true_eq, decide_eq_false_iff_not, ne_eq, Bool.not_eq_eq_eq_not, Bool.not_true, beq_iff_eq, bne_iff_ne]; exact Iff.rfl) | exact Iff.rfl) (fun ht5 => ?_) (fun ht5 => ?_)
        ·
         have hlt : j < y.pars.length := by omega
         obtain ⟨p, hpp⟩ : ∃ p, y.pars[j]? = some p := ⟨_, List.getElem?_eq_getElem hlt⟩
         refine R.c_skip ?_
         refine R.c_then ?_
         refine R.c_seq ?_
         refine R.c_block ?_
         refine R.c_seq (R.c_region ?_)
         refine R.wv h (r_elP h rfl rfl K.u_S_api_Key K.sz_api_Key (by first | exact Views.own 0 rfl | exact Views.own 1 rfl | exact Views.own 2 rfl | exact Views.own 3 rfl | exact Views.own 4 rfl | exact Views.own 5 rfl | assumption | exact Views.of_drop 1 (by assumption) | exact Views.of_drop 2 (by assumption) | exact Views.of_drop 3 (by assumption) | exact Views.of_drop 4 (by assumption) | exact Views.of_drop 5 (by assumption) | exact Views.of_drop 6 (by assumption) | exact Views.of_drop 7 (by assumption) | exact Views.of_drop 8 (by assumption) | exact Views.of_drop 9 (by assumption) | exact Views.of_drop 10 (by assumption) | exact Views.of_drop 11 (by assumption) | exact Views.of_drop 12 (by assumption)) (by first | omega | (simp; done)) (by first | omega | (simp only [List.length_cons, List.length_nil]; omega) | (simp; done) | (simp; omega))) rfl ?_
         clear h a w; intro a w h
         first
                  | (refine R.wv h (r_elM h rfl K.u_api_Key rfl K.sz_api_Key rfl (by first | exact Views.own 0 rfl | exact Views.own 1 rfl | exact Views.own 2 rfl | exact Views.own 3 rfl | exact Views.own 4 rfl | exact Views.own 5 rfl | assumption | exact Views.of_drop 1 (by assumption) | exact Views.of_drop 2 (by assumption) | exact Views.of_drop 3 (by assumption) | exact Views.of_drop 4 (by assumption) | exact Views.of_drop 5 (by assumption) | exact Views.of_drop 6 (by assumption) | exact Views.of_drop 7 (by assumption) | exact Views.of_drop 8 (by assumption) | exact Views.of_drop 9 (by assumption) | exact Views.of_drop 10 (by assumption) | exact Views.of_drop 11 (by assumption) | exact Views.of_drop 12 (by assumption)) (by assumption)) rfl ?_)
                  | (refine R.wv h (r_elMd h rfl K.u_api_Key rfl K.sz_api_Key rfl (by first | exact Views.own 0 rfl | exact Views.own 1 rfl | exact Views.own 2 rfl | exact Views.own 3 rfl | exact Views.own 4 rfl | exact Views.own 5 rfl | assumption | exact Views.of_drop 1 (by assumption) | exact Views.of_drop 2 (by assumption) | exact Views.of_drop 3 (by assumption) | exact Views.of_drop 4 (by assumption) | exact Views.of_drop 5 (by assumption) | exact Views.of_drop 6 (by assumption) | exact Views.of_drop 7 (by assumption) | exact Views.of_drop 8 (by assumption) | exact Views.of_drop 9 (by assumption) | exact Views.of_drop 10 (by assumption) | exact Views.of_drop 11 (by assumption) | exact Views.of_drop 12 (by assumption)) (by first | omega | (simp only [List.length_cons, List.length_nil]; omega) | (simp; done) | (simp; omega))) rfl ?_)
         clear h a w; intro a w h
         refine R.wl h rfl rfl (op_alloc h K.z_api_Key rfl ?_)
         clear h a w; intro b12 a w h
         rw [show (Value.agg (Array.replicate 32 (Value.int .u8 0))).cells = arr8 (List.replicate 32 0) from (arr8_zero 32).symm] at h
         first
                  | (refine R.wl h rfl rfl (op_storeA8 h rfl rfl K.sz_api_Key (by first | rfl | assumption | (simp; done) | (simp; omega) | omega) 0 rfl (by first | rfl | (simp [arr8]; done) | (simp [arr8]; omega) | (simp [arr8]; assumption)) ?_))
                  | (refine R.wl h rfl rfl (op_storeA8 h rfl rfl K.sz_api_Key (by first | rfl | assumption | (simp; done) | (simp; omega) | omega) 1 rfl (by first | rfl | (simp [arr8]; done) | (simp [arr8]; omega) | (simp [arr8]; assumption)) ?_))
                  | (refine R.wl h rfl rfl (op_storeA8 h rfl rfl K.sz_api_Key (by first | rfl | assumption | (simp; done) | (simp; omega) | omega) 2 rfl (by first | rfl | (simp [arr8]; done) | (simp [arr8]; omega) | (simp [arr8]; assumption)) ?_))
                  | (refine R.wl h rfl rfl (op_storeA8 h rfl rfl K.sz_api_Key (by first | rfl | assumption | (simp; done) | (simp; omega) | omega) 3 rfl (by first | rfl | (simp [arr8]; done) | (simp [arr8]; omega) | (simp [arr8]; assumption)) ?_))
                  | (refine R.wl h rfl rfl (op_storeA8 h rfl rfl K.sz_api_Key (by first | rfl | assumption | (simp; done) | (simp; omega) | omega) 4 rfl (by first | rfl | (simp [arr8]; done) | (simp [arr8]; omega) | (simp [arr8]; assumption)) ?_))
                  | (refine R.wl h rfl rfl (op_storeA8 h rfl rfl K.sz_api_Key (by first | rfl | assumption | (simp; done) | (simp; omega) | omega) 5 rfl (by first | rfl | (simp [arr8]; done) | (simp [arr8]; omega) | (simp [arr8]; assumption)) ?_))
         clear h a w; intro a w h
         (try simp only [List.set_cons_zero, List.set_cons_succ] at h)
         refine R.wnil h (R.c_then ?_)
         refine R.c_region ?_
         first
                  | (refine R.wv h (r_loadA8 h rfl K.u_api_Key rfl K.sz_api_Key 0 rfl (by first | rfl | assumption | (simp; done) | (simp; omega) | omega)) rfl ?_)
                  | (refine R.wv h (r_loadA8 h rfl K.u_api_Key rfl K.sz_api_Key 1 rfl (by first | rfl | assumption | (simp; done) | (simp; omega) | omega)) rfl ?_)
                  | (refine R.wv h (r_loadA8 h rfl K.u_api_Key rfl K.sz_api_Key 2 rfl (by first | rfl | assumption | (simp; done) | (simp; omega) | omega)) rfl ?_)
                  | (refine R.wv h (r_loadA8 h rfl K.u_api_Key rfl K.sz_api_Key 3 rfl (by first | rfl | assumption | (simp; done) | (simp; omega) | omega)) rfl ?_)
                  | (refine R.wv h (r_loadA8 h rfl K.u_api_Key rfl K.sz_api_Key 4 rfl (by first | rfl | assumption | (simp; done) | (simp; omega) | omega)) rfl ?_)
                  | (refine R.wv h (r_loadA8 h rfl K.u_api_Key rfl K.sz_api_Key 5 rfl (by first | rfl | assumption | (simp; done) | (simp; omega) | omega)) rfl ?_)
                  | (refine R.wv h (r_loadCA h rfl K.u_api_Key rfl K.sz_api_Key (by assumption) (by first | rfl | assumption | (simp; done) | (simp; omega) | omega)) rfl ?_)
         clear h a w; intro a w h
         replace h := h.drop 1
         rw [show arr8 p.val = ⟨cellsA p⟩ from rfl] at h
         refine R.wl h rfl rfl (op_call h rfl K.go_graph_queue_api_Key_put (q_put s _ _ _ _ _ (by first | omega | (simp only [List.length_cons, List.length_nil]; omega) | (simp; done) | (simp; omega)) h.2) rfl ?_)
         clear h a w; intro z a w hz h
         (try simp only [List.set_cons_zero, List.set_cons_succ] at h)
         rw [show rest ++ y.pars.take j ++ [p] = rest ++ y.pars.take (j + 1) by rw [List.take_add_one, hpp, List.append_assoc]; rfl] at h
         refine R.wnil h ?_
         refine R.b_normal ?_
         refine R.c_then ?_
         refine R.c_region ?_
         refine R.wv h (r_bin h rfl rfl (B.add_i64 (by omega) (by omega))) rfl ?_
         clear h a w; intro a w h
         refine R.wv h (r_move h rfl) rfl ?_
         clear h a w; intro a w h
         refine R.wnil h ?_
         exact ⟨j + 1, R.at_ (h.keep [5, 53, 54, 55]), by omega, by omega⟩
        ·
         refine R.c_exit ?_
         refine R.e_then ?_
         refine R.e_then ?_
         refine R.e_here ?_
         refine R.b_normal ?_
         rw [List.take_of_length_le (by omega)] at h
         refine R.end_go (ds := []) h 1 rfl (fun w hw => ⟨.inl (m2, lst ++ [k], rest ++ y.pars), rfl, (by have q := hw; replace q := q.front 7 rfl; replace q := q.front 7 rfl; replace q := q.front 7 rfl; replace q := q.front 7 rfl; replace q := q.front 7 rfl; replace q := q.front 7 rfl; replace q := q.front 7 rfl; replace q := q.sepN 7; replace q := q.front 2 rfl; replace q := q.front 2 rfl; exact q), hok, ?_⟩)
         rw [em]; exact Nat.lt_succ_self _
    ·
     intro z D a w hz h
     subst hz
     by_cases hr0 : r.2 = 0
     · rw [decide_eq_true hr0]
       show bodyPostM Fence.wide 0 P Try.f48 _ .normal (dd [R.mark D] a) w
       refine R.retM_end h 0 rfl (fun w h => ?_)
       exact ⟨_, results_nil rfl _ _, (), rfl, h.2.tail, trivial⟩
     · rw [decide_eq_false hr0]
       show RW none [R.mark D] P .ret _ a w
       refine R.c_ret ?_
       refine R.retM_ret h 0 rfl (fun w h => ?_)
       exact ⟨_, results_nil rfl _ _, (), rfl, h.2.tail, trivial⟩
end Go.Proofs.K
