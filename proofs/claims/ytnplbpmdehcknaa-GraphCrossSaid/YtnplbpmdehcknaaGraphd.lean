/- The contracts of package graph: all commits from some on. -/
import Derived.Test.YtnplbpmdehcknaaGraphc
set_option linter.unusedVariables false
set_option linter.unusedSimpArgs false
set_option maxRecDepth 10000
set_option maxHeartbeats 2000000
namespace Go.Proofs.K
open Go.Sl
attribute [local irreducible] Go.Sl.Own Go.Sl.Blk Go.Sl.Sep Go.Sl.Ex Go.Sl.Fact

/-- what All bears between two rounds; behind a round that left -/
def AllL (Lp : LoopState → Option Code → HItem) (D b4 b5 b6 : Nat) (v : Value) (lst : List Key) : List HItem :=
  [Lp .ready none, Blk D (.deferred (some [])), Blk b4 (.cells ⟨[.slice none 0 0]⟩ t_S_api_Key), Blk b5 (.cells ⟨[.int .i64 0]⟩ t_api_Errno), Blk b6 (.cells ⟨[v]⟩ t_S_api_Key), OwnM 32 cellsA v lst]
def AllI (Lp : LoopState → Option Code → HItem) (D b4 b5 b6 : Nat) (lst : List Key) : HItem := Ex fun v : Value => Sep (AllL Lp D b4 b5 b6 v lst)
def AllD (Lp : LoopState → Option Code → HItem) (D b4 b5 : Nat) (e : Int) : HItem :=
  Sep [Lp .done (some .ret), Blk D (.deferred (some [])), Blk b4 (.cells ⟨[.slice none 0 0]⟩ t_S_api_Key), Blk b5 (.cells ⟨[.int .i64 e]⟩ t_api_Errno)]

theorem g_All (s w : World) (b : Nat) (A : Option Addr) (cap : Nat) (fr : List Key) (nv : Value) (xs : List NodeV) (F : List HItem) (m : Nat) (r : List Key × Int)
    (hv : Views F 32 (.slice A fr.length cap) fr.length (fr.flatMap cellsA)) (hB : BookV F b nv xs) (hl : xs.length ≤ 4000000) (hp : ∀ x ∈ xs, x.pars.length ≤ 99) (hr : BfsOk (nsOf xs) m [] fr r) (hs : Sat s w F) :
    Calls P n_graph_All #[.iface t_p_interleafref18_Book (gp b), .slice A fr.length cap] w (Ret s (fun v : Value => .tuple #[v, .int .i64 r.2]) (fun v => OwnM 32 cellsA v r.1 :: F) (fun _ => True)) := by
  refine R.enterM K.fn_graph_All rfl K.nt_graph_All rfl hs ?_
  clear hs w; intro a w h
  refine R.c_seq (R.c_region ?_)
  refine R.wl h rfl rfl (op_alloc h K.z_S_api_Key rfl ?_)
  clear h a w; intro b4 a w h
  refine R.wl h rfl rfl (op_alloc h K.z_api_Errno rfl ?_)
  clear h a w; intro b5 a w h
  refine R.wnil h (R.c_then ?_)
  refine R.c_seq (R.c_region ?_)
  refine R.wl h rfl rfl (op_alloc h K.z_S_api_Key rfl ?_)
  clear h a w; intro b6 a w h
  replace h := h.addNilM (size := 32) (cells := cellsA (n := 32))
  refine R.wnil h (R.c_then ?_)
  refine R.c_seq ?_
  refine R.c_seq (R.c_region ?_)
  refine R.wv h (r_move h rfl) rfl ?_
  clear h a w; intro a w h
  refine R.wv h (r_ifeq_nil h ⟨_, K.u_graph_Source⟩ rfl rfl) rfl ?_
  clear h a w; intro a w h
  refine R.wnil h (R.c_then ?_)
  refine R.c_false h rfl ?_
  refine R.c_skip ?_
  refine R.c_then ?_
  refine R.c_seq ?_
  refine R.c_seq (R.c_region ?_)
  refine R.wv h (r_move h rfl) rfl ?_
  clear h a w; intro a w h
  refine R.wv h (r_move h rfl) rfl ?_
  clear h a w; intro a w h
  refine R.wl h rfl rfl (op_call h rfl K.go_graph_walk (g_walk s _ _ _ _ _ _ _ h.2) rfl ?_)
  clear h a w; intro x a w hx h
  (try simp only [List.set_cons_zero, List.set_cons_succ] at h)
  refine R.wnil h (R.c_then ?_)
  refine R.c_block ?_
  refine R.c_range h rfl K.go_graph_walk_1 (X := Value) (fun _ => if r.2 = 0 then .ready else .done) (fun _ => if r.2 = 0 then none else some .ret)
    (fun v => (if r.2 = 0 then [Blk b4 (.cells ⟨[.slice none 0 0]⟩ t_S_api_Key), Blk b5 (.cells ⟨[.int .i64 0]⟩ t_api_Errno), Blk b6 (.cells ⟨[v]⟩ t_S_api_Key), OwnM 32 cellsA v r.1]
      else [Blk b4 (.cells ⟨[.slice none 0 0]⟩ t_S_api_Key), Blk b5 (.cells ⟨[.int .i64 r.2]⟩ t_api_Errno)]) ++ F) (fun _ => True) (fun _ => by split <;> simp) (fun l D w1 Lp hLp hs1 => ?_) ?_
  ·
   have hs2 : Sat s w1 (Blk x.1 (.cells ⟨[.slice A fr.length cap]⟩ t_S_api_Key) :: Blk x.2 (.cells ⟨[.iface t_p_interleafref18_Book (gp b)]⟩ t_graph_Source) :: AllI Lp D b4 b5 b6 [] :: F) := (by have q := hs1; replace q := q.front 4 rfl; replace q := q.front 5 rfl; replace q := q.front 6 rfl; replace q := q.front 7 rfl; replace q := q.front 5 rfl; replace q := q.front 5 rfl; replace q := q.sepN 6; replace q := Sat.ex (f := fun v : Value => Sep (AllL Lp D b4 b5 b6 v [])) (.slice none 0 0) q; replace q := q.front 2 rfl; replace q := q.front 2 rfl; exact q)
   refine (g_walk1 s w1 l x.1 x.2 b A cap fr nv xs (AllI Lp D b4 b5 b6) (AllD Lp D b4 b5) F m r hv hB hl hp hr (fun G lst k e w hlen hw => ?hy) hs2).mono ?fin
   case fin =>
     rintro e W3 ⟨z, rfl, hz, _⟩
     refine ⟨⟨_, rfl⟩, ?_⟩
     by_cases hr0 : r.2 = 0
     · simp only [if_pos hr0] at hz ⊢
       obtain ⟨v, hz⟩ := hz.unex
       exact ⟨v, trivial, hz.unsep⟩
     · simp only [if_neg hr0] at hz ⊢
       exact ⟨.slice none 0 0, trivial, hz.unsep⟩
   subst hLp
   clear hs2 hs1 h
   obtain ⟨v, hw2⟩ := hw.unex
   clear hw
   replace hw2 := hw2.unsep
   refine R.yieldAt (vs := [keyV k, .int .i64 e]) (pvs := [(14, keyV k), (15, .int .i64 e)]) hw2 0 rfl rfl (by first | rfl | simp) rfl rfl (fun a h => ?_)
   clear hw2
   refine R.c_seq (R.c_region ?_)
   refine R.wl h rfl rfl (op_alloc h K.z_api_Key rfl ?_)
   clear h a w; intro b7 a w h
   rw [show (Value.agg (Array.replicate 32 (Value.int .u8 0))).cells = arr8 (List.replicate 32 0) from (arr8_zero 32).symm] at h
   first
      | (refine R.wl h rfl rfl (op_storeA8 h rfl rfl K.sz_api_Key (by first | rfl | assumption | (simp; done) | (simp; omega) | omega) 0 rfl (by first | rfl | (simp [arr8]; done) | (simp [arr8]; omega) | (simp [arr8]; assumption)) ?_))
      | (refine R.wl h rfl rfl (op_storeA8 h rfl rfl K.sz_api_Key (by first | rfl | assumption | (simp; done) | (simp; omega) | omega) 1 rfl (by first | rfl | (simp [arr8]; done) | (simp [arr8]; omega) | (simp [arr8]; assumption)) ?_))
      | (refine R.wl h rfl rfl (op_storeA8 h rfl rfl K.sz_api_Key (by first | rfl | assumption | (simp; done) | (simp; omega) | omega) 2 rfl (by first | rfl | (simp [arr8]; done) | (simp [arr8]; omega) | (simp [arr8]; assumption)) ?_))
      | (refine R.wl h rfl rfl (op_storeA8 h rfl rfl K.sz_api_Key (by first | rfl | assumption | (simp; done) | (simp; omega) | omega) 3 rfl (by first | rfl | (simp [arr8]; done) | (simp [arr8]; omega) | (simp [arr8]; assumption)) ?_))
      | (refine R.wl h rfl rfl (op_storeA8 h rfl rfl K.sz_api_Key (by first | rfl | assumption | (simp; done) | (simp; omega) | omega) 4 rfl (by first | rfl | (simp [arr8]; done) | (simp [arr8]; omega) | (simp [arr8]; assumption)) ?_))
      | (refine R.wl h rfl rfl (op_storeA8 h rfl rfl K.sz_api_Key (by first | rfl | assumption | (simp; done) | (simp; omega) | omega) 5 rfl (by first | rfl | (simp [arr8]; done) | (simp [arr8]; omega) | (simp [arr8]; assumption)) ?_))
   clear h a w; intro a w h
   (try simp only [List.set_cons_zero, List.set_cons_succ] at h)
   refine R.wnil h (R.c_then ?_)
   refine R.c_region ?_
   refine R.wv h (r_assign h rfl) rfl ?_
   clear h a w; intro a w h
   refine R.wnil h ?_
   refine R.begin_ h 1 rfl (fun a w h => ?_)
   unfold AllL at h
   simp only [List.set_cons_zero, List.set_cons_succ, List.cons_append, List.nil_append] at h
   refine R.c_block ?_
   refine R.c_seq ?_
   refine R.c_seq (R.c_region ?_)
   refine R.wv h (r_move h rfl) rfl ?_
   clear h a w; intro a w h
   refine R.wv h (r_bin h rfl rfl (B.neq_int)) rfl ?_
   clear h a w; intro a w h
   refine R.wnil h (R.c_then ?_)
   first
    | refine R.c_condD h rfl (fun ht2 => ?_) (fun ht2 => ?_)
    | refine R.c_condP h rfl (by first | (simp only [Bool.and_eq_true, Bool.or_eq_true, Bool.not_eq_true', decide_eq_true_eq, decide_eq_false_iff_not, ne_eq, Bool.not_eq_eq_eq_not, Bool.not_true, beq_iff_eq, bne_iff_ne]; exact Iff.rfl) | exact Iff.rfl) (fun ht2 => ?_) (fun ht2 => ?_)
   ·
    as_aux_lemma =>
     refine R.c_seq (R.c_region ?_)
     refine R.wv h (r_move h rfl) rfl ?_
     clear h a w; intro a w h
     first
          | (refine R.wl h rfl rfl (op_storeN h rfl rfl K.sz_S_api_Key (by first | rfl | assumption | exact Views.oneCell (Views.own 0 rfl) h.2 | exact Views.oneCell (Views.own 1 rfl) h.2 | exact Views.oneCell (Views.own 2 rfl) h.2 | exact Views.oneCell (Views.own 3 rfl) h.2 | exact Views.oneCell (Views.own 4 rfl) h.2 | exact Views.oneCell (Views.own 5 rfl) h.2 | exact Views.oneCell (by assumption) h.2) 0 rfl rfl ?_))
          | (refine R.wl h rfl rfl (op_storeN h rfl rfl K.sz_S_api_Key (by first | rfl | assumption | exact Views.oneCell (Views.own 0 rfl) h.2 | exact Views.oneCell (Views.own 1 rfl) h.2 | exact Views.oneCell (Views.own 2 rfl) h.2 | exact Views.oneCell (Views.own 3 rfl) h.2 | exact Views.oneCell (Views.own 4 rfl) h.2 | exact Views.oneCell (Views.own 5 rfl) h.2 | exact Views.oneCell (by assumption) h.2) 1 rfl rfl ?_))
          | (refine R.wl h rfl rfl (op_storeN h rfl rfl K.sz_S_api_Key (by first | rfl | assumption | exact Views.oneCell (Views.own 0 rfl) h.2 | exact Views.oneCell (Views.own 1 rfl) h.2 | exact Views.oneCell (Views.own 2 rfl) h.2 | exact Views.oneCell (Views.own 3 rfl) h.2 | exact Views.oneCell (Views.own 4 rfl) h.2 | exact Views.oneCell (Views.own 5 rfl) h.2 | exact Views.oneCell (by assumption) h.2) 2 rfl rfl ?_))
          | (refine R.wl h rfl rfl (op_storeN h rfl rfl K.sz_S_api_Key (by first | rfl | assumption | exact Views.oneCell (Views.own 0 rfl) h.2 | exact Views.oneCell (Views.own 1 rfl) h.2 | exact Views.oneCell (Views.own 2 rfl) h.2 | exact Views.oneCell (Views.own 3 rfl) h.2 | exact Views.oneCell (Views.own 4 rfl) h.2 | exact Views.oneCell (Views.own 5 rfl) h.2 | exact Views.oneCell (by assumption) h.2) 3 rfl rfl ?_))
          | (refine R.wl h rfl rfl (op_storeN h rfl rfl K.sz_S_api_Key (by first | rfl | assumption | exact Views.oneCell (Views.own 0 rfl) h.2 | exact Views.oneCell (Views.own 1 rfl) h.2 | exact Views.oneCell (Views.own 2 rfl) h.2 | exact Views.oneCell (Views.own 3 rfl) h.2 | exact Views.oneCell (Views.own 4 rfl) h.2 | exact Views.oneCell (Views.own 5 rfl) h.2 | exact Views.oneCell (by assumption) h.2) 4 rfl rfl ?_))
          | (refine R.wl h rfl rfl (op_storeN h rfl rfl K.sz_S_api_Key (by first | rfl | assumption | exact Views.oneCell (Views.own 0 rfl) h.2 | exact Views.oneCell (Views.own 1 rfl) h.2 | exact Views.oneCell (Views.own 2 rfl) h.2 | exact Views.oneCell (Views.own 3 rfl) h.2 | exact Views.oneCell (Views.own 4 rfl) h.2 | exact Views.oneCell (Views.own 5 rfl) h.2 | exact Views.oneCell (by assumption) h.2) 5 rfl rfl ?_))
          | (refine R.wl h rfl rfl (op_storeN h rfl rfl K.sz_S_api_Key (by first | rfl | assumption | exact Views.oneCell (Views.own 0 rfl) h.2 | exact Views.oneCell (Views.own 1 rfl) h.2 | exact Views.oneCell (Views.own 2 rfl) h.2 | exact Views.oneCell (Views.own 3 rfl) h.2 | exact Views.oneCell (Views.own 4 rfl) h.2 | exact Views.oneCell (Views.own 5 rfl) h.2 | exact Views.oneCell (by assumption) h.2) 6 rfl rfl ?_))
     clear h a w; intro a w h
     (try simp only [List.set_cons_zero, List.set_cons_succ] at h)
     first
          | (refine R.wl h rfl rfl (op_storeN h rfl rfl K.sz_api_Errno (by first | rfl | assumption | exact Views.oneCell (Views.own 0 rfl) h.2 | exact Views.oneCell (Views.own 1 rfl) h.2 | exact Views.oneCell (Views.own 2 rfl) h.2 | exact Views.oneCell (Views.own 3 rfl) h.2 | exact Views.oneCell (Views.own 4 rfl) h.2 | exact Views.oneCell (Views.own 5 rfl) h.2 | exact Views.oneCell (by assumption) h.2) 0 rfl rfl ?_))
          | (refine R.wl h rfl rfl (op_storeN h rfl rfl K.sz_api_Errno (by first | rfl | assumption | exact Views.oneCell (Views.own 0 rfl) h.2 | exact Views.oneCell (Views.own 1 rfl) h.2 | exact Views.oneCell (Views.own 2 rfl) h.2 | exact Views.oneCell (Views.own 3 rfl) h.2 | exact Views.oneCell (Views.own 4 rfl) h.2 | exact Views.oneCell (Views.own 5 rfl) h.2 | exact Views.oneCell (by assumption) h.2) 1 rfl rfl ?_))
          | (refine R.wl h rfl rfl (op_storeN h rfl rfl K.sz_api_Errno (by first | rfl | assumption | exact Views.oneCell (Views.own 0 rfl) h.2 | exact Views.oneCell (Views.own 1 rfl) h.2 | exact Views.oneCell (Views.own 2 rfl) h.2 | exact Views.oneCell (Views.own 3 rfl) h.2 | exact Views.oneCell (Views.own 4 rfl) h.2 | exact Views.oneCell (Views.own 5 rfl) h.2 | exact Views.oneCell (by assumption) h.2) 2 rfl rfl ?_))
          | (refine R.wl h rfl rfl (op_storeN h rfl rfl K.sz_api_Errno (by first | rfl | assumption | exact Views.oneCell (Views.own 0 rfl) h.2 | exact Views.oneCell (Views.own 1 rfl) h.2 | exact Views.oneCell (Views.own 2 rfl) h.2 | exact Views.oneCell (Views.own 3 rfl) h.2 | exact Views.oneCell (Views.own 4 rfl) h.2 | exact Views.oneCell (Views.own 5 rfl) h.2 | exact Views.oneCell (by assumption) h.2) 3 rfl rfl ?_))
          | (refine R.wl h rfl rfl (op_storeN h rfl rfl K.sz_api_Errno (by first | rfl | assumption | exact Views.oneCell (Views.own 0 rfl) h.2 | exact Views.oneCell (Views.own 1 rfl) h.2 | exact Views.oneCell (Views.own 2 rfl) h.2 | exact Views.oneCell (Views.own 3 rfl) h.2 | exact Views.oneCell (Views.own 4 rfl) h.2 | exact Views.oneCell (Views.own 5 rfl) h.2 | exact Views.oneCell (by assumption) h.2) 4 rfl rfl ?_))
          | (refine R.wl h rfl rfl (op_storeN h rfl rfl K.sz_api_Errno (by first | rfl | assumption | exact Views.oneCell (Views.own 0 rfl) h.2 | exact Views.oneCell (Views.own 1 rfl) h.2 | exact Views.oneCell (Views.own 2 rfl) h.2 | exact Views.oneCell (Views.own 3 rfl) h.2 | exact Views.oneCell (Views.own 4 rfl) h.2 | exact Views.oneCell (Views.own 5 rfl) h.2 | exact Views.oneCell (by assumption) h.2) 5 rfl rfl ?_))
          | (refine R.wl h rfl rfl (op_storeN h rfl rfl K.sz_api_Errno (by first | rfl | assumption | exact Views.oneCell (Views.own 0 rfl) h.2 | exact Views.oneCell (Views.own 1 rfl) h.2 | exact Views.oneCell (Views.own 2 rfl) h.2 | exact Views.oneCell (Views.own 3 rfl) h.2 | exact Views.oneCell (Views.own 4 rfl) h.2 | exact Views.oneCell (Views.own 5 rfl) h.2 | exact Views.oneCell (by assumption) h.2) 6 rfl rfl ?_))
     clear h a w; intro a w h
     (try simp only [List.set_cons_zero, List.set_cons_succ] at h)
     refine R.wnil h (R.c_then ?_)
     refine R.c_ret ?_
     refine R.end_ret (ds := []) h 1 rfl (fun w hw => ⟨(), ?_, ?_, trivial⟩)
     · simp [ht2]
     · rw [if_neg ht2]
       exact Sat.sep (M := [_, _, _, _]) (by have q := hw; replace q := (q.front 0 rfl).tail; replace q := (q.front 4 rfl).tail; replace q := (q.front 4 rfl).tail; exact q)
   ·
    refine R.c_skip ?_
    refine R.c_then ?_
    refine R.c_region ?_
    first
        | (refine R.wv h (r_ldN h rfl K.u_S_api_Key rfl 0 rfl rfl) rfl ?_)
        | (refine R.wv h (r_ldN h rfl K.u_S_api_Key rfl 1 rfl rfl) rfl ?_)
        | (refine R.wv h (r_ldN h rfl K.u_S_api_Key rfl 2 rfl rfl) rfl ?_)
        | (refine R.wv h (r_ldN h rfl K.u_S_api_Key rfl 3 rfl rfl) rfl ?_)
        | (refine R.wv h (r_ldN h rfl K.u_S_api_Key rfl 4 rfl rfl) rfl ?_)
        | (refine R.wv h (r_ldN h rfl K.u_S_api_Key rfl 5 rfl rfl) rfl ?_)
        | (refine R.wv h (r_ldN h rfl K.u_S_api_Key rfl 6 rfl rfl) rfl ?_)
        | (refine R.wv h (r_load h rfl K.u_S_api_Key rfl 0 rfl rfl) rfl ?_)
        | (refine R.wv h (r_load h rfl K.u_S_api_Key rfl 1 rfl rfl) rfl ?_)
        | (refine R.wv h (r_load h rfl K.u_S_api_Key rfl 2 rfl rfl) rfl ?_)
        | (refine R.wv h (r_load h rfl K.u_S_api_Key rfl 3 rfl rfl) rfl ?_)
        | (refine R.wv h (r_load h rfl K.u_S_api_Key rfl 4 rfl rfl) rfl ?_)
        | (refine R.wv h (r_load h rfl K.u_S_api_Key rfl 5 rfl rfl) rfl ?_)
        | (refine R.wv h (r_load1 h rfl K.u_S_api_Key rfl (by assumption)) rfl ?_)
    clear h a w; intro a w h
    first
        | (refine R.wv h (r_loadA8 h rfl K.u_api_Key rfl K.sz_api_Key 0 rfl (by first | rfl | assumption | (simp; done) | (simp; omega) | omega)) rfl ?_)
        | (refine R.wv h (r_loadA8 h rfl K.u_api_Key rfl K.sz_api_Key 1 rfl (by first | rfl | assumption | (simp; done) | (simp; omega) | omega)) rfl ?_)
        | (refine R.wv h (r_loadA8 h rfl K.u_api_Key rfl K.sz_api_Key 2 rfl (by first | rfl | assumption | (simp; done) | (simp; omega) | omega)) rfl ?_)
        | (refine R.wv h (r_loadA8 h rfl K.u_api_Key rfl K.sz_api_Key 3 rfl (by first | rfl | assumption | (simp; done) | (simp; omega) | omega)) rfl ?_)
        | (refine R.wv h (r_loadA8 h rfl K.u_api_Key rfl K.sz_api_Key 4 rfl (by first | rfl | assumption | (simp; done) | (simp; omega) | omega)) rfl ?_)
        | (refine R.wv h (r_loadA8 h rfl K.u_api_Key rfl K.sz_api_Key 5 rfl (by first | rfl | assumption | (simp; done) | (simp; omega) | omega)) rfl ?_)
        | (refine R.wv h (r_loadCA h rfl K.u_api_Key rfl K.sz_api_Key (by assumption) (by first | rfl | assumption | (simp; done) | (simp; omega) | omega)) rfl ?_)
    clear h a w; intro a w h
    refine R.wl h rfl rfl (op_build1 h K.u_S_api_Key K.sz_api_Key K.z_api_Key rfl rfl rfl (by first | exact Row.len _ | rfl | assumption | (simp; done) | (simp; omega) | omega) rfl ?_)
    clear h a w; intro b21 a w h
    refine R.wl h rfl rfl (op_appendR1 (cells := cellsA) (u := k) h rfl rfl K.u_S_api_Key K.sz_api_Key K.z_api_Key rfl rfl 6 rfl (by omega) rfl ?_)
    clear h a w; intro v22 a w h
    simp only [List.set_cons_zero, List.set_cons_succ] at h
    have ho22 : v22.oneCell' = true := Views.oneCell (Views.own 6 rfl) h.2
    first
        | (refine R.wl h rfl rfl (op_storeN h rfl rfl K.sz_S_api_Key (by first | rfl | assumption | exact Views.oneCell (Views.own 0 rfl) h.2 | exact Views.oneCell (Views.own 1 rfl) h.2 | exact Views.oneCell (Views.own 2 rfl) h.2 | exact Views.oneCell (Views.own 3 rfl) h.2 | exact Views.oneCell (Views.own 4 rfl) h.2 | exact Views.oneCell (Views.own 5 rfl) h.2 | exact Views.oneCell (by assumption) h.2) 0 rfl rfl ?_))
        | (refine R.wl h rfl rfl (op_storeN h rfl rfl K.sz_S_api_Key (by first | rfl | assumption | exact Views.oneCell (Views.own 0 rfl) h.2 | exact Views.oneCell (Views.own 1 rfl) h.2 | exact Views.oneCell (Views.own 2 rfl) h.2 | exact Views.oneCell (Views.own 3 rfl) h.2 | exact Views.oneCell (Views.own 4 rfl) h.2 | exact Views.oneCell (Views.own 5 rfl) h.2 | exact Views.oneCell (by assumption) h.2) 1 rfl rfl ?_))
        | (refine R.wl h rfl rfl (op_storeN h rfl rfl K.sz_S_api_Key (by first | rfl | assumption | exact Views.oneCell (Views.own 0 rfl) h.2 | exact Views.oneCell (Views.own 1 rfl) h.2 | exact Views.oneCell (Views.own 2 rfl) h.2 | exact Views.oneCell (Views.own 3 rfl) h.2 | exact Views.oneCell (Views.own 4 rfl) h.2 | exact Views.oneCell (Views.own 5 rfl) h.2 | exact Views.oneCell (by assumption) h.2) 2 rfl rfl ?_))
        | (refine R.wl h rfl rfl (op_storeN h rfl rfl K.sz_S_api_Key (by first | rfl | assumption | exact Views.oneCell (Views.own 0 rfl) h.2 | exact Views.oneCell (Views.own 1 rfl) h.2 | exact Views.oneCell (Views.own 2 rfl) h.2 | exact Views.oneCell (Views.own 3 rfl) h.2 | exact Views.oneCell (Views.own 4 rfl) h.2 | exact Views.oneCell (Views.own 5 rfl) h.2 | exact Views.oneCell (by assumption) h.2) 3 rfl rfl ?_))
        | (refine R.wl h rfl rfl (op_storeN h rfl rfl K.sz_S_api_Key (by first | rfl | assumption | exact Views.oneCell (Views.own 0 rfl) h.2 | exact Views.oneCell (Views.own 1 rfl) h.2 | exact Views.oneCell (Views.own 2 rfl) h.2 | exact Views.oneCell (Views.own 3 rfl) h.2 | exact Views.oneCell (Views.own 4 rfl) h.2 | exact Views.oneCell (Views.own 5 rfl) h.2 | exact Views.oneCell (by assumption) h.2) 4 rfl rfl ?_))
        | (refine R.wl h rfl rfl (op_storeN h rfl rfl K.sz_S_api_Key (by first | rfl | assumption | exact Views.oneCell (Views.own 0 rfl) h.2 | exact Views.oneCell (Views.own 1 rfl) h.2 | exact Views.oneCell (Views.own 2 rfl) h.2 | exact Views.oneCell (Views.own 3 rfl) h.2 | exact Views.oneCell (Views.own 4 rfl) h.2 | exact Views.oneCell (Views.own 5 rfl) h.2 | exact Views.oneCell (by assumption) h.2) 5 rfl rfl ?_))
        | (refine R.wl h rfl rfl (op_storeN h rfl rfl K.sz_S_api_Key (by first | rfl | assumption | exact Views.oneCell (Views.own 0 rfl) h.2 | exact Views.oneCell (Views.own 1 rfl) h.2 | exact Views.oneCell (Views.own 2 rfl) h.2 | exact Views.oneCell (Views.own 3 rfl) h.2 | exact Views.oneCell (Views.own 4 rfl) h.2 | exact Views.oneCell (Views.own 5 rfl) h.2 | exact Views.oneCell (by assumption) h.2) 6 rfl rfl ?_))
    clear h a w; intro a w h
    (try simp only [List.set_cons_zero, List.set_cons_succ] at h)
    refine R.wnil h ?_
    refine R.b_normal ?_
    have he : e = 0 := by simpa using ht2
    subst he
    refine R.end_go (ds := []) h 1 rfl (fun w hw => ⟨(), rfl, ?_, trivial⟩)
    rw [if_pos rfl]
    exact Sat.ex (f := fun v : Value => Sep (AllL _ D b4 b5 b6 v (lst ++ [k]))) _ (Sat.sep (M := AllL _ D b4 b5 b6 _ (lst ++ [k])) (hw.drop 1))
  ·
   intro v D a w hz h
   by_cases hr0 : r.2 = 0
   all_goals simp only [hr0, if_true, if_false, List.cons_append, List.nil_append] at h ⊢
   ·
    refine R.b_normal ?_
    refine R.c_then ?_
    refine R.c_seq (R.c_region ?_)
    first
        | (refine R.wv h (r_ldN h rfl K.u_S_api_Key rfl 0 rfl rfl) rfl ?_)
        | (refine R.wv h (r_ldN h rfl K.u_S_api_Key rfl 1 rfl rfl) rfl ?_)
        | (refine R.wv h (r_ldN h rfl K.u_S_api_Key rfl 2 rfl rfl) rfl ?_)
        | (refine R.wv h (r_ldN h rfl K.u_S_api_Key rfl 3 rfl rfl) rfl ?_)
        | (refine R.wv h (r_ldN h rfl K.u_S_api_Key rfl 4 rfl rfl) rfl ?_)
        | (refine R.wv h (r_ldN h rfl K.u_S_api_Key rfl 5 rfl rfl) rfl ?_)
        | (refine R.wv h (r_ldN h rfl K.u_S_api_Key rfl 6 rfl rfl) rfl ?_)
        | (refine R.wv h (r_load h rfl K.u_S_api_Key rfl 0 rfl rfl) rfl ?_)
        | (refine R.wv h (r_load h rfl K.u_S_api_Key rfl 1 rfl rfl) rfl ?_)
        | (refine R.wv h (r_load h rfl K.u_S_api_Key rfl 2 rfl rfl) rfl ?_)
        | (refine R.wv h (r_load h rfl K.u_S_api_Key rfl 3 rfl rfl) rfl ?_)
        | (refine R.wv h (r_load h rfl K.u_S_api_Key rfl 4 rfl rfl) rfl ?_)
        | (refine R.wv h (r_load h rfl K.u_S_api_Key rfl 5 rfl rfl) rfl ?_)
        | (refine R.wv h (r_load1 h rfl K.u_S_api_Key rfl (by assumption)) rfl ?_)
    clear h a w; intro a w h
    first
        | (refine R.wl h rfl rfl (op_storeN h rfl rfl K.sz_S_api_Key (by first | rfl | assumption | exact Views.oneCell (Views.own 0 rfl) h.2 | exact Views.oneCell (Views.own 1 rfl) h.2 | exact Views.oneCell (Views.own 2 rfl) h.2 | exact Views.oneCell (Views.own 3 rfl) h.2 | exact Views.oneCell (Views.own 4 rfl) h.2 | exact Views.oneCell (Views.own 5 rfl) h.2 | exact Views.oneCell (by assumption) h.2) 0 rfl rfl ?_))
        | (refine R.wl h rfl rfl (op_storeN h rfl rfl K.sz_S_api_Key (by first | rfl | assumption | exact Views.oneCell (Views.own 0 rfl) h.2 | exact Views.oneCell (Views.own 1 rfl) h.2 | exact Views.oneCell (Views.own 2 rfl) h.2 | exact Views.oneCell (Views.own 3 rfl) h.2 | exact Views.oneCell (Views.own 4 rfl) h.2 | exact Views.oneCell (Views.own 5 rfl) h.2 | exact Views.oneCell (by assumption) h.2) 1 rfl rfl ?_))
        | (refine R.wl h rfl rfl (op_storeN h rfl rfl K.sz_S_api_Key (by first | rfl | assumption | exact Views.oneCell (Views.own 0 rfl) h.2 | exact Views.oneCell (Views.own 1 rfl) h.2 | exact Views.oneCell (Views.own 2 rfl) h.2 | exact Views.oneCell (Views.own 3 rfl) h.2 | exact Views.oneCell (Views.own 4 rfl) h.2 | exact Views.oneCell (Views.own 5 rfl) h.2 | exact Views.oneCell (by assumption) h.2) 2 rfl rfl ?_))
        | (refine R.wl h rfl rfl (op_storeN h rfl rfl K.sz_S_api_Key (by first | rfl | assumption | exact Views.oneCell (Views.own 0 rfl) h.2 | exact Views.oneCell (Views.own 1 rfl) h.2 | exact Views.oneCell (Views.own 2 rfl) h.2 | exact Views.oneCell (Views.own 3 rfl) h.2 | exact Views.oneCell (Views.own 4 rfl) h.2 | exact Views.oneCell (Views.own 5 rfl) h.2 | exact Views.oneCell (by assumption) h.2) 3 rfl rfl ?_))
        | (refine R.wl h rfl rfl (op_storeN h rfl rfl K.sz_S_api_Key (by first | rfl | assumption | exact Views.oneCell (Views.own 0 rfl) h.2 | exact Views.oneCell (Views.own 1 rfl) h.2 | exact Views.oneCell (Views.own 2 rfl) h.2 | exact Views.oneCell (Views.own 3 rfl) h.2 | exact Views.oneCell (Views.own 4 rfl) h.2 | exact Views.oneCell (Views.own 5 rfl) h.2 | exact Views.oneCell (by assumption) h.2) 4 rfl rfl ?_))
        | (refine R.wl h rfl rfl (op_storeN h rfl rfl K.sz_S_api_Key (by first | rfl | assumption | exact Views.oneCell (Views.own 0 rfl) h.2 | exact Views.oneCell (Views.own 1 rfl) h.2 | exact Views.oneCell (Views.own 2 rfl) h.2 | exact Views.oneCell (Views.own 3 rfl) h.2 | exact Views.oneCell (Views.own 4 rfl) h.2 | exact Views.oneCell (Views.own 5 rfl) h.2 | exact Views.oneCell (by assumption) h.2) 5 rfl rfl ?_))
        | (refine R.wl h rfl rfl (op_storeN h rfl rfl K.sz_S_api_Key (by first | rfl | assumption | exact Views.oneCell (Views.own 0 rfl) h.2 | exact Views.oneCell (Views.own 1 rfl) h.2 | exact Views.oneCell (Views.own 2 rfl) h.2 | exact Views.oneCell (Views.own 3 rfl) h.2 | exact Views.oneCell (Views.own 4 rfl) h.2 | exact Views.oneCell (Views.own 5 rfl) h.2 | exact Views.oneCell (by assumption) h.2) 6 rfl rfl ?_))
    clear h a w; intro a w h
    (try simp only [List.set_cons_zero, List.set_cons_succ] at h)
    first
        | (refine R.wl h rfl rfl (op_storeN h rfl rfl K.sz_api_Errno (by first | rfl | assumption | exact Views.oneCell (Views.own 0 rfl) h.2 | exact Views.oneCell (Views.own 1 rfl) h.2 | exact Views.oneCell (Views.own 2 rfl) h.2 | exact Views.oneCell (Views.own 3 rfl) h.2 | exact Views.oneCell (Views.own 4 rfl) h.2 | exact Views.oneCell (Views.own 5 rfl) h.2 | exact Views.oneCell (by assumption) h.2) 0 rfl rfl ?_))
        | (refine R.wl h rfl rfl (op_storeN h rfl rfl K.sz_api_Errno (by first | rfl | assumption | exact Views.oneCell (Views.own 0 rfl) h.2 | exact Views.oneCell (Views.own 1 rfl) h.2 | exact Views.oneCell (Views.own 2 rfl) h.2 | exact Views.oneCell (Views.own 3 rfl) h.2 | exact Views.oneCell (Views.own 4 rfl) h.2 | exact Views.oneCell (Views.own 5 rfl) h.2 | exact Views.oneCell (by assumption) h.2) 1 rfl rfl ?_))
        | (refine R.wl h rfl rfl (op_storeN h rfl rfl K.sz_api_Errno (by first | rfl | assumption | exact Views.oneCell (Views.own 0 rfl) h.2 | exact Views.oneCell (Views.own 1 rfl) h.2 | exact Views.oneCell (Views.own 2 rfl) h.2 | exact Views.oneCell (Views.own 3 rfl) h.2 | exact Views.oneCell (Views.own 4 rfl) h.2 | exact Views.oneCell (Views.own 5 rfl) h.2 | exact Views.oneCell (by assumption) h.2) 2 rfl rfl ?_))
        | (refine R.wl h rfl rfl (op_storeN h rfl rfl K.sz_api_Errno (by first | rfl | assumption | exact Views.oneCell (Views.own 0 rfl) h.2 | exact Views.oneCell (Views.own 1 rfl) h.2 | exact Views.oneCell (Views.own 2 rfl) h.2 | exact Views.oneCell (Views.own 3 rfl) h.2 | exact Views.oneCell (Views.own 4 rfl) h.2 | exact Views.oneCell (Views.own 5 rfl) h.2 | exact Views.oneCell (by assumption) h.2) 3 rfl rfl ?_))
        | (refine R.wl h rfl rfl (op_storeN h rfl rfl K.sz_api_Errno (by first | rfl | assumption | exact Views.oneCell (Views.own 0 rfl) h.2 | exact Views.oneCell (Views.own 1 rfl) h.2 | exact Views.oneCell (Views.own 2 rfl) h.2 | exact Views.oneCell (Views.own 3 rfl) h.2 | exact Views.oneCell (Views.own 4 rfl) h.2 | exact Views.oneCell (Views.own 5 rfl) h.2 | exact Views.oneCell (by assumption) h.2) 4 rfl rfl ?_))
        | (refine R.wl h rfl rfl (op_storeN h rfl rfl K.sz_api_Errno (by first | rfl | assumption | exact Views.oneCell (Views.own 0 rfl) h.2 | exact Views.oneCell (Views.own 1 rfl) h.2 | exact Views.oneCell (Views.own 2 rfl) h.2 | exact Views.oneCell (Views.own 3 rfl) h.2 | exact Views.oneCell (Views.own 4 rfl) h.2 | exact Views.oneCell (Views.own 5 rfl) h.2 | exact Views.oneCell (by assumption) h.2) 5 rfl rfl ?_))
        | (refine R.wl h rfl rfl (op_storeN h rfl rfl K.sz_api_Errno (by first | rfl | assumption | exact Views.oneCell (Views.own 0 rfl) h.2 | exact Views.oneCell (Views.own 1 rfl) h.2 | exact Views.oneCell (Views.own 2 rfl) h.2 | exact Views.oneCell (Views.own 3 rfl) h.2 | exact Views.oneCell (Views.own 4 rfl) h.2 | exact Views.oneCell (Views.own 5 rfl) h.2 | exact Views.oneCell (by assumption) h.2) 6 rfl rfl ?_))
    clear h a w; intro a w h
    (try simp only [List.set_cons_zero, List.set_cons_succ] at h)
    refine R.wnil h (R.c_then ?_)
    refine R.c_ret ?_
    refine R.retM_ret h 0 rfl (fun w h => ?_)
    exact ⟨_, results_cc h rfl rfl rfl K.u_S_api_Key rfl K.u_api_Errno rfl 1 rfl 2 rfl, v, rfl, h.2.drop 4, trivial⟩
   ·
    refine R.c_ret ?_
    refine R.retM_ret h 0 rfl (fun w h => ?_)
    exact ⟨_, results_cc h rfl rfl rfl K.u_S_api_Key rfl K.u_api_Errno rfl 1 rfl 2 rfl, .slice none 0 0, rfl, by rw [hr.lostE hr0]; exact (St.addNilM (size := 32) (cells := cellsA (n := 32)) (St.drop h 3)).2, trivial⟩
theorem g_All_nil (s w : World) (v : Value) (F : List HItem) (hs : Sat s w F) :
    Calls P n_graph_All #[.nilIface, v] w (Ret s (fun _ : Unit => .tuple #[.slice none 0 0, .int .i64 2]) (fun _ => F) (fun _ => True)) := by
  refine R.enterM K.fn_graph_All rfl K.nt_graph_All rfl hs ?_
  clear hs w; intro a w h
  refine R.c_seq (R.c_region ?_)
  refine R.wl h rfl rfl (op_alloc h K.z_S_api_Key rfl ?_)
  clear h a w; intro b4 a w h
  refine R.wl h rfl rfl (op_alloc h K.z_api_Errno rfl ?_)
  clear h a w; intro b5 a w h
  refine R.wnil h (R.c_then ?_)
  refine R.c_seq (R.c_region ?_)
  refine R.wl h rfl rfl (op_alloc h K.z_S_api_Key rfl ?_)
  clear h a w; intro b6 a w h
  refine R.wnil h (R.c_then ?_)
  refine R.c_seq ?_
  refine R.c_seq (R.c_region ?_)
  refine R.wv h (r_move h rfl) rfl ?_
  clear h a w; intro a w h
  refine R.wv h (r_ifnil_eq h ⟨_, K.u_graph_Source⟩ rfl) rfl ?_
  clear h a w; intro a w h
  refine R.wnil h (R.c_then ?_)
  refine R.c_true h rfl ?_
  refine R.c_seq (R.c_region ?_)
  first
    | (refine R.wl h rfl rfl (op_storeN h rfl rfl K.sz_S_api_Key (by first | rfl | assumption | exact Views.oneCell (Views.own 0 rfl) h.2 | exact Views.oneCell (Views.own 1 rfl) h.2 | exact Views.oneCell (Views.own 2 rfl) h.2 | exact Views.oneCell (Views.own 3 rfl) h.2 | exact Views.oneCell (Views.own 4 rfl) h.2 | exact Views.oneCell (Views.own 5 rfl) h.2 | exact Views.oneCell (by assumption) h.2) 0 rfl rfl ?_))
    | (refine R.wl h rfl rfl (op_storeN h rfl rfl K.sz_S_api_Key (by first | rfl | assumption | exact Views.oneCell (Views.own 0 rfl) h.2 | exact Views.oneCell (Views.own 1 rfl) h.2 | exact Views.oneCell (Views.own 2 rfl) h.2 | exact Views.oneCell (Views.own 3 rfl) h.2 | exact Views.oneCell (Views.own 4 rfl) h.2 | exact Views.oneCell (Views.own 5 rfl) h.2 | exact Views.oneCell (by assumption) h.2) 1 rfl rfl ?_))
    | (refine R.wl h rfl rfl (op_storeN h rfl rfl K.sz_S_api_Key (by first | rfl | assumption | exact Views.oneCell (Views.own 0 rfl) h.2 | exact Views.oneCell (Views.own 1 rfl) h.2 | exact Views.oneCell (Views.own 2 rfl) h.2 | exact Views.oneCell (Views.own 3 rfl) h.2 | exact Views.oneCell (Views.own 4 rfl) h.2 | exact Views.oneCell (Views.own 5 rfl) h.2 | exact Views.oneCell (by assumption) h.2) 2 rfl rfl ?_))
    | (refine R.wl h rfl rfl (op_storeN h rfl rfl K.sz_S_api_Key (by first | rfl | assumption | exact Views.oneCell (Views.own 0 rfl) h.2 | exact Views.oneCell (Views.own 1 rfl) h.2 | exact Views.oneCell (Views.own 2 rfl) h.2 | exact Views.oneCell (Views.own 3 rfl) h.2 | exact Views.oneCell (Views.own 4 rfl) h.2 | exact Views.oneCell (Views.own 5 rfl) h.2 | exact Views.oneCell (by assumption) h.2) 3 rfl rfl ?_))
    | (refine R.wl h rfl rfl (op_storeN h rfl rfl K.sz_S_api_Key (by first | rfl | assumption | exact Views.oneCell (Views.own 0 rfl) h.2 | exact Views.oneCell (Views.own 1 rfl) h.2 | exact Views.oneCell (Views.own 2 rfl) h.2 | exact Views.oneCell (Views.own 3 rfl) h.2 | exact Views.oneCell (Views.own 4 rfl) h.2 | exact Views.oneCell (Views.own 5 rfl) h.2 | exact Views.oneCell (by assumption) h.2) 4 rfl rfl ?_))
    | (refine R.wl h rfl rfl (op_storeN h rfl rfl K.sz_S_api_Key (by first | rfl | assumption | exact Views.oneCell (Views.own 0 rfl) h.2 | exact Views.oneCell (Views.own 1 rfl) h.2 | exact Views.oneCell (Views.own 2 rfl) h.2 | exact Views.oneCell (Views.own 3 rfl) h.2 | exact Views.oneCell (Views.own 4 rfl) h.2 | exact Views.oneCell (Views.own 5 rfl) h.2 | exact Views.oneCell (by assumption) h.2) 5 rfl rfl ?_))
    | (refine R.wl h rfl rfl (op_storeN h rfl rfl K.sz_S_api_Key (by first | rfl | assumption | exact Views.oneCell (Views.own 0 rfl) h.2 | exact Views.oneCell (Views.own 1 rfl) h.2 | exact Views.oneCell (Views.own 2 rfl) h.2 | exact Views.oneCell (Views.own 3 rfl) h.2 | exact Views.oneCell (Views.own 4 rfl) h.2 | exact Views.oneCell (Views.own 5 rfl) h.2 | exact Views.oneCell (by assumption) h.2) 6 rfl rfl ?_))
  clear h a w; intro a w h
  (try simp only [List.set_cons_zero, List.set_cons_succ] at h)
  first
    | (refine R.wl h rfl rfl (op_storeN h rfl rfl K.sz_api_Errno (by first | rfl | assumption | exact Views.oneCell (Views.own 0 rfl) h.2 | exact Views.oneCell (Views.own 1 rfl) h.2 | exact Views.oneCell (Views.own 2 rfl) h.2 | exact Views.oneCell (Views.own 3 rfl) h.2 | exact Views.oneCell (Views.own 4 rfl) h.2 | exact Views.oneCell (Views.own 5 rfl) h.2 | exact Views.oneCell (by assumption) h.2) 0 rfl rfl ?_))
    | (refine R.wl h rfl rfl (op_storeN h rfl rfl K.sz_api_Errno (by first | rfl | assumption | exact Views.oneCell (Views.own 0 rfl) h.2 | exact Views.oneCell (Views.own 1 rfl) h.2 | exact Views.oneCell (Views.own 2 rfl) h.2 | exact Views.oneCell (Views.own 3 rfl) h.2 | exact Views.oneCell (Views.own 4 rfl) h.2 | exact Views.oneCell (Views.own 5 rfl) h.2 | exact Views.oneCell (by assumption) h.2) 1 rfl rfl ?_))
    | (refine R.wl h rfl rfl (op_storeN h rfl rfl K.sz_api_Errno (by first | rfl | assumption | exact Views.oneCell (Views.own 0 rfl) h.2 | exact Views.oneCell (Views.own 1 rfl) h.2 | exact Views.oneCell (Views.own 2 rfl) h.2 | exact Views.oneCell (Views.own 3 rfl) h.2 | exact Views.oneCell (Views.own 4 rfl) h.2 | exact Views.oneCell (Views.own 5 rfl) h.2 | exact Views.oneCell (by assumption) h.2) 2 rfl rfl ?_))
    | (refine R.wl h rfl rfl (op_storeN h rfl rfl K.sz_api_Errno (by first | rfl | assumption | exact Views.oneCell (Views.own 0 rfl) h.2 | exact Views.oneCell (Views.own 1 rfl) h.2 | exact Views.oneCell (Views.own 2 rfl) h.2 | exact Views.oneCell (Views.own 3 rfl) h.2 | exact Views.oneCell (Views.own 4 rfl) h.2 | exact Views.oneCell (Views.own 5 rfl) h.2 | exact Views.oneCell (by assumption) h.2) 3 rfl rfl ?_))
    | (refine R.wl h rfl rfl (op_storeN h rfl rfl K.sz_api_Errno (by first | rfl | assumption | exact Views.oneCell (Views.own 0 rfl) h.2 | exact Views.oneCell (Views.own 1 rfl) h.2 | exact Views.oneCell (Views.own 2 rfl) h.2 | exact Views.oneCell (Views.own 3 rfl) h.2 | exact Views.oneCell (Views.own 4 rfl) h.2 | exact Views.oneCell (Views.own 5 rfl) h.2 | exact Views.oneCell (by assumption) h.2) 4 rfl rfl ?_))
    | (refine R.wl h rfl rfl (op_storeN h rfl rfl K.sz_api_Errno (by first | rfl | assumption | exact Views.oneCell (Views.own 0 rfl) h.2 | exact Views.oneCell (Views.own 1 rfl) h.2 | exact Views.oneCell (Views.own 2 rfl) h.2 | exact Views.oneCell (Views.own 3 rfl) h.2 | exact Views.oneCell (Views.own 4 rfl) h.2 | exact Views.oneCell (Views.own 5 rfl) h.2 | exact Views.oneCell (by assumption) h.2) 5 rfl rfl ?_))
    | (refine R.wl h rfl rfl (op_storeN h rfl rfl K.sz_api_Errno (by first | rfl | assumption | exact Views.oneCell (Views.own 0 rfl) h.2 | exact Views.oneCell (Views.own 1 rfl) h.2 | exact Views.oneCell (Views.own 2 rfl) h.2 | exact Views.oneCell (Views.own 3 rfl) h.2 | exact Views.oneCell (Views.own 4 rfl) h.2 | exact Views.oneCell (Views.own 5 rfl) h.2 | exact Views.oneCell (by assumption) h.2) 6 rfl rfl ?_))
  clear h a w; intro a w h
  (try simp only [List.set_cons_zero, List.set_cons_succ] at h)
  refine R.wnil h (R.c_then ?_)
  refine R.c_ret ?_
  refine R.ret0M h ?_
  exact ⟨_, results_cc h rfl rfl rfl K.u_S_api_Key rfl K.u_api_Errno rfl 2 rfl 1 rfl, (), rfl, h.2.drop 3, trivial⟩
end Go.Proofs.K
