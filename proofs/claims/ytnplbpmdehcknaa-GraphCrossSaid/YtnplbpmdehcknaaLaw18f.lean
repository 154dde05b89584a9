/- The statements on graphs, walked: GraphCross. -/
import Derived.Test.YtnplbpmdehcknaaLaw18
import Derived.Test.YtnplbpmdehcknaaBookb
import Derived.Test.YtnplbpmdehcknaaCross
set_option linter.unusedVariables false
set_option linter.unusedSimpArgs false
set_option maxRecDepth 10000
set_option maxHeartbeats 2000000
namespace Go.Proofs.K
open Go.Sl
attribute [local irreducible] Go.Sl.Own Go.Sl.Blk Go.Sl.Sep Go.Sl.Ex Go.Sl.Fact
def crX (k : Key) (nt : List UInt8) (A : Option Addr) (n cap : Nat) (ps : List Key) : NodeV := ⟨k, BA.zero 32, A, n, cap, nt, ps⟩
theorem law18_GraphCross (s w : World) (x y : UInt8) (ap : Bool) (F : List HItem) (hs : Sat s w F) :
    Calls P n_law18_GraphCross #[bv x, bv y, .bool ap] w (Ret s (fun _ : Unit => .bool true) (fun _ => F) (fun _ => True)) := by
  refine enter K.fn_law18_GraphCross rfl K.nt_law18_GraphCross rfl hs ?_
  clear hs w; intro a w h
  refine c_seq (c_region ?_)
  refine wv h (r_assign h rfl) rfl ?_
  clear h a w; intro a w h
  refine wnil (c_then ?_)
  refine c_seq ?_
  refine c_seq (c_region ?_)
  refine wl rfl (op_call h rfl K.go_law18_awake (law18_awake s _ _ h.2) rfl ?_)
  clear h a w; intro z18 a w hz18 h
  (try simp only [List.set_cons_zero, List.set_cons_succ] at h)
  refine wv h (r_not h rfl) rfl ?_
  clear h a w; intro a w h
  refine wv h (r_move h rfl) rfl ?_
  clear h a w; intro a w h
  refine wvG h (by first | exact .t rfl | exact .f rfl | exact .gt rfl | exact .gf rfl) (fun hg => by (try simp only [↓gval_on hg, ↓gval_and hg] at h); (have hg2 := hg; (try simp only [Bool.and_eq_true, Bool.or_eq_true, Bool.not_eq_true', decide_eq_true_eq, decide_eq_false_iff_not] at hg2)); first | exact r_move h rfl) rfl ?_
  clear h a w; intro a w h
  refine wvG h (by first | exact .t rfl | exact .f rfl | exact .gt rfl | exact .gf rfl) (fun hg => by (try simp only [↓gval_on hg, ↓gval_and hg] at h); (have hg2 := hg; (try simp only [Bool.and_eq_true, Bool.or_eq_true, Bool.not_eq_true', decide_eq_true_eq, decide_eq_false_iff_not] at hg2)); first | exact r_move h rfl) rfl ?_
  clear h a w; intro a w h
  refine wvG h (by first | exact .t rfl | exact .f rfl | exact .gt rfl | exact .gf rfl) (fun hg => by (try simp only [↓gval_on hg, ↓gval_and hg] at h); (have hg2 := hg; (try simp only [Bool.and_eq_true, Bool.or_eq_true, Bool.not_eq_true', decide_eq_true_eq, decide_eq_false_iff_not] at hg2)); first | exact r_bin h rfl rfl (B.eql_u8)) rfl ?_
  clear h a w; intro a w h
  first
    | (refine wv h (r_pickA h rfl rfl rfl) rfl ?_)
    | (refine wv h (r_pickO h rfl rfl rfl) rfl ?_)
    | (refine wv h (r_pick_true h rfl rfl) rfl ?_)
    | (refine wv h (r_pick_false h rfl rfl) rfl ?_)
    | (refine wv h (r_pick h rfl rfl rfl) rfl ?_)
  clear h a w; intro a w h
  refine wnil (c_then ?_)
  refine c_condP (p := x = y) h rfl (by simp) (fun ht1 => ?_) (fun ht1 => ?_)
  ·
   as_aux_lemma =>
    refine c_seq (c_region ?_)
    refine wl rfl (op_call h rfl K.go_law18_awake (law18_awake s _ _ h.2) rfl ?_)
    clear h a w; intro x a w hx h
    (try simp only [List.set_cons_zero, List.set_cons_succ] at h)
    refine wv h (r_assign h rfl) rfl ?_
    clear h a w; intro a w h
    refine wnil (c_then ?_)
    refine c_ret ?_
    exact ret1 h rfl rfl ⟨(), rfl, h.2, trivial⟩
  ·
   refine c_skip ?_
   refine c_then ?_
   have hfx := fill_k2 x 1
   have hfy := fill_k2 y 1
   have hfp := fill_k2 1 2
   have hfq := fill_k2 1 3
   obtain ⟨kx, hkx⟩ : ∃ k, k = k2 x 1 := ⟨_, rfl⟩
   obtain ⟨ky, hky⟩ : ∃ k, k = k2 y 1 := ⟨_, rfl⟩
   obtain ⟨kp, hkp⟩ : ∃ k, k = k2 1 2 := ⟨_, rfl⟩
   obtain ⟨kq, hkq⟩ : ∃ k, k = k2 1 3 := ⟨_, rfl⟩
   rw [← hkx] at hfx
   rw [← hky] at hfy
   rw [← hkp] at hfp
   rw [← hkq] at hfq
   obtain ⟨x0, hx0⟩ : ∃ z : NodeV, z = ⟨kx, BA.zero 32, none, 0, 0, [], []⟩ := ⟨_, rfl⟩
   obtain ⟨x1, hx1⟩ : ∃ z : NodeV, z = ⟨ky, BA.zero 32, none, 0, 0, [121], []⟩ := ⟨_, rfl⟩
   have lc0 := comC_len (BA.zero 32) (.slice none 0 0) (sv [])
   have lc1 := comC_len (BA.zero 32) (.slice none 0 0) (sv [121])
   have hf0 := fill_node kx (comC (BA.zero 32) (.slice none 0 0) (sv [])) lc0
   have hf1 := fill_node ky (comC (BA.zero 32) (.slice none 0 0) (sv [121])) lc1
   have hc0 : cellsN x0 = bs kx.val ++ (comC (BA.zero 32) (.slice none 0 0) (sv []) ++ [.slice none 0 0]) := by rw [hx0]; rfl
   have hc1 : cellsN x1 = bs ky.val ++ (comC (BA.zero 32) (.slice none 0 0) (sv [121]) ++ [.slice none 0 0]) := by rw [hx1]; rfl
   refine c_seq (c_region ?_)
   refine wv h (r_move h rfl) rfl ?_
   clear h a w; intro a w h
   refine wv h (r_buildA (cells := ⟨bs kx.val⟩) h K.u_api_Key K.z_api_Key K.sz_uint8 rfl hfx) rfl ?_
   clear h a w; intro a w h
   refine wl rfl (op_alloc h K.z_api_Key rfl ?_)
   clear h a w; intro b7 a w h
   rw [show (Value.agg (Array.replicate 32 (Value.int .u8 0))).cells = arr8 (List.replicate 32 0) from (arr8_zero 32).symm] at h
   first
      | (refine wl rfl (op_storeA8 h rfl rfl K.sz_api_Key (by first | rfl | assumption | (simp; done) | (simp; omega) | omega) 0 rfl (by first | rfl | (simp [arr8]; done) | (simp [arr8]; omega) | (simp [arr8]; assumption)) ?_))
      | (refine wl rfl (op_storeA8 h rfl rfl K.sz_api_Key (by first | rfl | assumption | (simp; done) | (simp; omega) | omega) 1 rfl (by first | rfl | (simp [arr8]; done) | (simp [arr8]; omega) | (simp [arr8]; assumption)) ?_))
      | (refine wl rfl (op_storeA8 h rfl rfl K.sz_api_Key (by first | rfl | assumption | (simp; done) | (simp; omega) | omega) 2 rfl (by first | rfl | (simp [arr8]; done) | (simp [arr8]; omega) | (simp [arr8]; assumption)) ?_))
      | (refine wl rfl (op_storeA8 h rfl rfl K.sz_api_Key (by first | rfl | assumption | (simp; done) | (simp; omega) | omega) 3 rfl (by first | rfl | (simp [arr8]; done) | (simp [arr8]; omega) | (simp [arr8]; assumption)) ?_))
      | (refine wl rfl (op_storeA8 h rfl rfl K.sz_api_Key (by first | rfl | assumption | (simp; done) | (simp; omega) | omega) 4 rfl (by first | rfl | (simp [arr8]; done) | (simp [arr8]; omega) | (simp [arr8]; assumption)) ?_))
      | (refine wl rfl (op_storeA8 h rfl rfl K.sz_api_Key (by first | rfl | assumption | (simp; done) | (simp; omega) | omega) 5 rfl (by first | rfl | (simp [arr8]; done) | (simp [arr8]; omega) | (simp [arr8]; assumption)) ?_))
   clear h a w; intro a w h
   (try simp only [List.set_cons_zero, List.set_cons_succ] at h)
   refine wnil (c_then ?_)
   refine c_seq (c_region ?_)
   refine wv h (r_move h rfl) rfl ?_
   clear h a w; intro a w h
   refine wv h (r_buildA (cells := ⟨bs ky.val⟩) h K.u_api_Key K.z_api_Key K.sz_uint8 rfl hfy) rfl ?_
   clear h a w; intro a w h
   refine wl rfl (op_alloc h K.z_api_Key rfl ?_)
   clear h a w; intro b8 a w h
   rw [show (Value.agg (Array.replicate 32 (Value.int .u8 0))).cells = arr8 (List.replicate 32 0) from (arr8_zero 32).symm] at h
   first
      | (refine wl rfl (op_storeA8 h rfl rfl K.sz_api_Key (by first | rfl | assumption | (simp; done) | (simp; omega) | omega) 0 rfl (by first | rfl | (simp [arr8]; done) | (simp [arr8]; omega) | (simp [arr8]; assumption)) ?_))
      | (refine wl rfl (op_storeA8 h rfl rfl K.sz_api_Key (by first | rfl | assumption | (simp; done) | (simp; omega) | omega) 1 rfl (by first | rfl | (simp [arr8]; done) | (simp [arr8]; omega) | (simp [arr8]; assumption)) ?_))
      | (refine wl rfl (op_storeA8 h rfl rfl K.sz_api_Key (by first | rfl | assumption | (simp; done) | (simp; omega) | omega) 2 rfl (by first | rfl | (simp [arr8]; done) | (simp [arr8]; omega) | (simp [arr8]; assumption)) ?_))
      | (refine wl rfl (op_storeA8 h rfl rfl K.sz_api_Key (by first | rfl | assumption | (simp; done) | (simp; omega) | omega) 3 rfl (by first | rfl | (simp [arr8]; done) | (simp [arr8]; omega) | (simp [arr8]; assumption)) ?_))
      | (refine wl rfl (op_storeA8 h rfl rfl K.sz_api_Key (by first | rfl | assumption | (simp; done) | (simp; omega) | omega) 4 rfl (by first | rfl | (simp [arr8]; done) | (simp [arr8]; omega) | (simp [arr8]; assumption)) ?_))
      | (refine wl rfl (op_storeA8 h rfl rfl K.sz_api_Key (by first | rfl | assumption | (simp; done) | (simp; omega) | omega) 5 rfl (by first | rfl | (simp [arr8]; done) | (simp [arr8]; omega) | (simp [arr8]; assumption)) ?_))
   clear h a w; intro a w h
   (try simp only [List.set_cons_zero, List.set_cons_succ] at h)
   refine wnil (c_then ?_)
   refine c_seq (c_region ?_)
   first
      | (refine wv h (r_loadA8 h rfl K.u_api_Key rfl K.sz_api_Key 0 rfl (by first | rfl | assumption | (simp; done) | (simp; omega) | omega)) rfl ?_)
      | (refine wv h (r_loadA8 h rfl K.u_api_Key rfl K.sz_api_Key 1 rfl (by first | rfl | assumption | (simp; done) | (simp; omega) | omega)) rfl ?_)
      | (refine wv h (r_loadA8 h rfl K.u_api_Key rfl K.sz_api_Key 2 rfl (by first | rfl | assumption | (simp; done) | (simp; omega) | omega)) rfl ?_)
      | (refine wv h (r_loadA8 h rfl K.u_api_Key rfl K.sz_api_Key 3 rfl (by first | rfl | assumption | (simp; done) | (simp; omega) | omega)) rfl ?_)
      | (refine wv h (r_loadA8 h rfl K.u_api_Key rfl K.sz_api_Key 4 rfl (by first | rfl | assumption | (simp; done) | (simp; omega) | omega)) rfl ?_)
      | (refine wv h (r_loadA8 h rfl K.u_api_Key rfl K.sz_api_Key 5 rfl (by first | rfl | assumption | (simp; done) | (simp; omega) | omega)) rfl ?_)
      | (refine wv h (r_loadCA h rfl K.u_api_Key rfl K.sz_api_Key (by assumption) (by first | rfl | assumption | (simp; done) | (simp; omega) | omega)) rfl ?_)
   clear h a w; intro a w h
   refine wv h (r_build (cells := ⟨comC (BA.zero 32) (.slice none 0 0) (sv [])⟩) h K.u_api_Commit K.z_api_Commit K.pl_api_Commit rfl rfl) rfl ?_
   clear h a w; intro a w h
   refine wv h (r_build (cells := ⟨cellsN x0⟩) h K.u_interleafref18_Node K.z_interleafref18_Node K.pl_interleafref18_Node rfl (by rw [hc0]; exact hf0 _ rfl rfl)) rfl ?_
   clear h a w; intro a w h
   first
      | (refine wv h (r_loadA8 h rfl K.u_api_Key rfl K.sz_api_Key 0 rfl (by first | rfl | assumption | (simp; done) | (simp; omega) | omega)) rfl ?_)
      | (refine wv h (r_loadA8 h rfl K.u_api_Key rfl K.sz_api_Key 1 rfl (by first | rfl | assumption | (simp; done) | (simp; omega) | omega)) rfl ?_)
      | (refine wv h (r_loadA8 h rfl K.u_api_Key rfl K.sz_api_Key 2 rfl (by first | rfl | assumption | (simp; done) | (simp; omega) | omega)) rfl ?_)
      | (refine wv h (r_loadA8 h rfl K.u_api_Key rfl K.sz_api_Key 3 rfl (by first | rfl | assumption | (simp; done) | (simp; omega) | omega)) rfl ?_)
      | (refine wv h (r_loadA8 h rfl K.u_api_Key rfl K.sz_api_Key 4 rfl (by first | rfl | assumption | (simp; done) | (simp; omega) | omega)) rfl ?_)
      | (refine wv h (r_loadA8 h rfl K.u_api_Key rfl K.sz_api_Key 5 rfl (by first | rfl | assumption | (simp; done) | (simp; omega) | omega)) rfl ?_)
      | (refine wv h (r_loadCA h rfl K.u_api_Key rfl K.sz_api_Key (by assumption) (by first | rfl | assumption | (simp; done) | (simp; omega) | omega)) rfl ?_)
   clear h a w; intro a w h
   refine wv h (r_build (cells := ⟨comC (BA.zero 32) (.slice none 0 0) (sv [121])⟩) h K.u_api_Commit K.z_api_Commit K.pl_api_Commit rfl (fill_note [121])) rfl ?_
   clear h a w; intro a w h
   refine wv h (r_build (cells := ⟨cellsN x1⟩) h K.u_interleafref18_Node K.z_interleafref18_Node K.pl_interleafref18_Node rfl (by rw [hc1]; exact hf1 _ rfl rfl)) rfl ?_
   clear h a w; intro a w h
   refine wl rfl (op_build2R (cells := cellsN) h x0 x1 K.u_S_interleafref18_Node K.sz_interleafref18_Node K.z_interleafref18_Node rfl rfl rfl rfl rfl ?_)
   clear h a w; intro b36 a w h
   refine wv h (r_build h K.u_interleafref18_Book K.z_interleafref18_Book K.pl_interleafref18_Book rfl rfl) rfl ?_
   clear h a w; intro a w h
   refine wl rfl (op_box h rfl rfl ?_)
   clear h a w; intro b38 a w h
   try simp only [Value.cells] at h
   refine wv h (r_assign h rfl) rfl ?_
   clear h a w; intro a w h
   refine wnil (c_then ?_)
   refine c_seq (c_region ?_)
   refine wv h (r_buildA (cells := ⟨bs kp.val⟩) h K.u_api_Key K.z_api_Key K.sz_uint8 rfl hfp) rfl ?_
   clear h a w; intro a w h
   refine wl rfl (op_alloc h K.z_api_Key rfl ?_)
   clear h a w; intro b10 a w h
   rw [show (Value.agg (Array.replicate 32 (Value.int .u8 0))).cells = arr8 (List.replicate 32 0) from (arr8_zero 32).symm] at h
   first
      | (refine wl rfl (op_storeA8 h rfl rfl K.sz_api_Key (by first | rfl | assumption | (simp; done) | (simp; omega) | omega) 0 rfl (by first | rfl | (simp [arr8]; done) | (simp [arr8]; omega) | (simp [arr8]; assumption)) ?_))
      | (refine wl rfl (op_storeA8 h rfl rfl K.sz_api_Key (by first | rfl | assumption | (simp; done) | (simp; omega) | omega) 1 rfl (by first | rfl | (simp [arr8]; done) | (simp [arr8]; omega) | (simp [arr8]; assumption)) ?_))
      | (refine wl rfl (op_storeA8 h rfl rfl K.sz_api_Key (by first | rfl | assumption | (simp; done) | (simp; omega) | omega) 2 rfl (by first | rfl | (simp [arr8]; done) | (simp [arr8]; omega) | (simp [arr8]; assumption)) ?_))
      | (refine wl rfl (op_storeA8 h rfl rfl K.sz_api_Key (by first | rfl | assumption | (simp; done) | (simp; omega) | omega) 3 rfl (by first | rfl | (simp [arr8]; done) | (simp [arr8]; omega) | (simp [arr8]; assumption)) ?_))
      | (refine wl rfl (op_storeA8 h rfl rfl K.sz_api_Key (by first | rfl | assumption | (simp; done) | (simp; omega) | omega) 4 rfl (by first | rfl | (simp [arr8]; done) | (simp [arr8]; omega) | (simp [arr8]; assumption)) ?_))
      | (refine wl rfl (op_storeA8 h rfl rfl K.sz_api_Key (by first | rfl | assumption | (simp; done) | (simp; omega) | omega) 5 rfl (by first | rfl | (simp [arr8]; done) | (simp [arr8]; omega) | (simp [arr8]; assumption)) ?_))
   clear h a w; intro a w h
   (try simp only [List.set_cons_zero, List.set_cons_succ] at h)
   refine wnil (c_then ?_)
   refine c_seq (c_region ?_)
   refine wv h (r_buildA (cells := ⟨bs kq.val⟩) h K.u_api_Key K.z_api_Key K.sz_uint8 rfl hfq) rfl ?_
   clear h a w; intro a w h
   refine wl rfl (op_alloc h K.z_api_Key rfl ?_)
   clear h a w; intro b11 a w h
   rw [show (Value.agg (Array.replicate 32 (Value.int .u8 0))).cells = arr8 (List.replicate 32 0) from (arr8_zero 32).symm] at h
   first
      | (refine wl rfl (op_storeA8 h rfl rfl K.sz_api_Key (by first | rfl | assumption | (simp; done) | (simp; omega) | omega) 0 rfl (by first | rfl | (simp [arr8]; done) | (simp [arr8]; omega) | (simp [arr8]; assumption)) ?_))
      | (refine wl rfl (op_storeA8 h rfl rfl K.sz_api_Key (by first | rfl | assumption | (simp; done) | (simp; omega) | omega) 1 rfl (by first | rfl | (simp [arr8]; done) | (simp [arr8]; omega) | (simp [arr8]; assumption)) ?_))
      | (refine wl rfl (op_storeA8 h rfl rfl K.sz_api_Key (by first | rfl | assumption | (simp; done) | (simp; omega) | omega) 2 rfl (by first | rfl | (simp [arr8]; done) | (simp [arr8]; omega) | (simp [arr8]; assumption)) ?_))
      | (refine wl rfl (op_storeA8 h rfl rfl K.sz_api_Key (by first | rfl | assumption | (simp; done) | (simp; omega) | omega) 3 rfl (by first | rfl | (simp [arr8]; done) | (simp [arr8]; omega) | (simp [arr8]; assumption)) ?_))
      | (refine wl rfl (op_storeA8 h rfl rfl K.sz_api_Key (by first | rfl | assumption | (simp; done) | (simp; omega) | omega) 4 rfl (by first | rfl | (simp [arr8]; done) | (simp [arr8]; omega) | (simp [arr8]; assumption)) ?_))
      | (refine wl rfl (op_storeA8 h rfl rfl K.sz_api_Key (by first | rfl | assumption | (simp; done) | (simp; omega) | omega) 5 rfl (by first | rfl | (simp [arr8]; done) | (simp [arr8]; omega) | (simp [arr8]; assumption)) ?_))
   clear h a w; intro a w h
   (try simp only [List.set_cons_zero, List.set_cons_succ] at h)
   refine wnil (c_then ?_)
   replace h : St _ _ _ _ _ (Blk b8 (.cells (arr8 ky.val) t_api_Key) :: Blk b7 (.cells (arr8 kx.val) t_api_Key) :: Blk b38 (.cells ⟨[.slice (some ⟨b36, 0, none⟩) 2 2, .slice none 0 0, .slice none 0 0, .slice none 0 0, .bool false]⟩ t_interleafref18_Book) :: OwnM 67 cellsN (.slice (some ⟨b36, 0, none⟩) 2 2) [x0, x1] :: Blk b11 (.cells (arr8 kq.val) t_api_Key) :: Blk b10 (.cells (arr8 kp.val) t_api_Key) :: F) := ⟨h.1, (by have q := h.2; replace q := q.front 1 rfl; replace q := q.front 1 rfl; replace q := q.front 3 rfl; replace q := q.front 3 rfl; replace q := q.front 5 rfl; replace q := q.front 5 rfl; exact q)⟩
   refine c_seq (c_region ?_)
   first
      | (refine wv h (r_loadA8 h rfl K.u_api_Key rfl K.sz_api_Key 0 rfl (by first | rfl | assumption | (simp; done) | (simp; omega) | omega)) rfl ?_)
      | (refine wv h (r_loadA8 h rfl K.u_api_Key rfl K.sz_api_Key 1 rfl (by first | rfl | assumption | (simp; done) | (simp; omega) | omega)) rfl ?_)
      | (refine wv h (r_loadA8 h rfl K.u_api_Key rfl K.sz_api_Key 2 rfl (by first | rfl | assumption | (simp; done) | (simp; omega) | omega)) rfl ?_)
      | (refine wv h (r_loadA8 h rfl K.u_api_Key rfl K.sz_api_Key 3 rfl (by first | rfl | assumption | (simp; done) | (simp; omega) | omega)) rfl ?_)
      | (refine wv h (r_loadA8 h rfl K.u_api_Key rfl K.sz_api_Key 4 rfl (by first | rfl | assumption | (simp; done) | (simp; omega) | omega)) rfl ?_)
      | (refine wv h (r_loadA8 h rfl K.u_api_Key rfl K.sz_api_Key 5 rfl (by first | rfl | assumption | (simp; done) | (simp; omega) | omega)) rfl ?_)
      | (refine wv h (r_loadCA h rfl K.u_api_Key rfl K.sz_api_Key (by assumption) (by first | rfl | assumption | (simp; done) | (simp; omega) | omega)) rfl ?_)
   clear h a w; intro a w h
   first
      | (refine wv h (r_loadA8 h rfl K.u_api_Key rfl K.sz_api_Key 0 rfl (by first | rfl | assumption | (simp; done) | (simp; omega) | omega)) rfl ?_)
      | (refine wv h (r_loadA8 h rfl K.u_api_Key rfl K.sz_api_Key 1 rfl (by first | rfl | assumption | (simp; done) | (simp; omega) | omega)) rfl ?_)
      | (refine wv h (r_loadA8 h rfl K.u_api_Key rfl K.sz_api_Key 2 rfl (by first | rfl | assumption | (simp; done) | (simp; omega) | omega)) rfl ?_)
      | (refine wv h (r_loadA8 h rfl K.u_api_Key rfl K.sz_api_Key 3 rfl (by first | rfl | assumption | (simp; done) | (simp; omega) | omega)) rfl ?_)
      | (refine wv h (r_loadA8 h rfl K.u_api_Key rfl K.sz_api_Key 4 rfl (by first | rfl | assumption | (simp; done) | (simp; omega) | omega)) rfl ?_)
      | (refine wv h (r_loadA8 h rfl K.u_api_Key rfl K.sz_api_Key 5 rfl (by first | rfl | assumption | (simp; done) | (simp; omega) | omega)) rfl ?_)
      | (refine wv h (r_loadCA h rfl K.u_api_Key rfl K.sz_api_Key (by assumption) (by first | rfl | assumption | (simp; done) | (simp; omega) | omega)) rfl ?_)
   clear h a w; intro a w h
   refine wl rfl (op_build2R (cells := cellsA) h kx ky K.u_S_api_Key K.sz_api_Key K.z_api_Key rfl rfl rfl rfl rfl ?_)
   clear h a w; intro b43 a w h
   refine wv h (r_build (cells := ⟨comC (BA.zero 32) (.slice (some ⟨b43, 0, none⟩) 2 2) (sv [])⟩) h K.u_api_Commit K.z_api_Commit K.pl_api_Commit rfl (fill_pars _ _ _)) rfl ?_
   clear h a w; intro a w h
   have lc2 := comC_len (BA.zero 32) (.slice (some ⟨b43, 0, none⟩) 2 2) (sv [])
   have oc2 : ∀ u ∈ comC (BA.zero 32) (.slice (some ⟨b43, 0, none⟩) 2 2) (sv []), u.oneCell' = true := comC_one rfl rfl
   refine wl rfl (op_alloc h K.z_api_Commit rfl ?_)
   clear h a w; intro b12 a w h
   first
      | (refine wl rfl (op_stA h rfl rfl K.sz_api_Commit (by first | exact Row.len _ | rfl | assumption | (simp; done) | (simp; omega) | omega) (by first | exact Row.one _ | exact bs_one _ | assumption | (simp; done) | (simp; (repeat' apply And.intro) <;> first | rfl | assumption)) 0 rfl (by first | rfl | assumption | (simp; done) | (simp; omega) | omega) ?_))
      | (refine wl rfl (op_stA h rfl rfl K.sz_api_Commit (by first | exact Row.len _ | rfl | assumption | (simp; done) | (simp; omega) | omega) (by first | exact Row.one _ | exact bs_one _ | assumption | (simp; done) | (simp; (repeat' apply And.intro) <;> first | rfl | assumption)) 1 rfl (by first | rfl | assumption | (simp; done) | (simp; omega) | omega) ?_))
      | (refine wl rfl (op_stA h rfl rfl K.sz_api_Commit (by first | exact Row.len _ | rfl | assumption | (simp; done) | (simp; omega) | omega) (by first | exact Row.one _ | exact bs_one _ | assumption | (simp; done) | (simp; (repeat' apply And.intro) <;> first | rfl | assumption)) 2 rfl (by first | rfl | assumption | (simp; done) | (simp; omega) | omega) ?_))
      | (refine wl rfl (op_stA h rfl rfl K.sz_api_Commit (by first | exact Row.len _ | rfl | assumption | (simp; done) | (simp; omega) | omega) (by first | exact Row.one _ | exact bs_one _ | assumption | (simp; done) | (simp; (repeat' apply And.intro) <;> first | rfl | assumption)) 3 rfl (by first | rfl | assumption | (simp; done) | (simp; omega) | omega) ?_))
      | (refine wl rfl (op_stA h rfl rfl K.sz_api_Commit (by first | exact Row.len _ | rfl | assumption | (simp; done) | (simp; omega) | omega) (by first | exact Row.one _ | exact bs_one _ | assumption | (simp; done) | (simp; (repeat' apply And.intro) <;> first | rfl | assumption)) 4 rfl (by first | rfl | assumption | (simp; done) | (simp; omega) | omega) ?_))
      | (refine wl rfl (op_stA h rfl rfl K.sz_api_Commit (by first | exact Row.len _ | rfl | assumption | (simp; done) | (simp; omega) | omega) (by first | exact Row.one _ | exact bs_one _ | assumption | (simp; done) | (simp; (repeat' apply And.intro) <;> first | rfl | assumption)) 5 rfl (by first | rfl | assumption | (simp; done) | (simp; omega) | omega) ?_))
   clear h a w; intro a w h
   (try simp only [List.set_cons_zero, List.set_cons_succ] at h)
   refine wnil (c_then ?_)
   refine c_seq (c_region ?_)
   first
      | (refine wv h (r_loadA8 h rfl K.u_api_Key rfl K.sz_api_Key 0 rfl (by first | rfl | assumption | (simp; done) | (simp; omega) | omega)) rfl ?_)
      | (refine wv h (r_loadA8 h rfl K.u_api_Key rfl K.sz_api_Key 1 rfl (by first | rfl | assumption | (simp; done) | (simp; omega) | omega)) rfl ?_)
      | (refine wv h (r_loadA8 h rfl K.u_api_Key rfl K.sz_api_Key 2 rfl (by first | rfl | assumption | (simp; done) | (simp; omega) | omega)) rfl ?_)
      | (refine wv h (r_loadA8 h rfl K.u_api_Key rfl K.sz_api_Key 3 rfl (by first | rfl | assumption | (simp; done) | (simp; omega) | omega)) rfl ?_)
      | (refine wv h (r_loadA8 h rfl K.u_api_Key rfl K.sz_api_Key 4 rfl (by first | rfl | assumption | (simp; done) | (simp; omega) | omega)) rfl ?_)
      | (refine wv h (r_loadA8 h rfl K.u_api_Key rfl K.sz_api_Key 5 rfl (by first | rfl | assumption | (simp; done) | (simp; omega) | omega)) rfl ?_)
      | (refine wv h (r_loadCA h rfl K.u_api_Key rfl K.sz_api_Key (by assumption) (by first | rfl | assumption | (simp; done) | (simp; omega) | omega)) rfl ?_)
   clear h a w; intro a w h
   first
      | (refine wv h (r_loadA8 h rfl K.u_api_Key rfl K.sz_api_Key 0 rfl (by first | rfl | assumption | (simp; done) | (simp; omega) | omega)) rfl ?_)
      | (refine wv h (r_loadA8 h rfl K.u_api_Key rfl K.sz_api_Key 1 rfl (by first | rfl | assumption | (simp; done) | (simp; omega) | omega)) rfl ?_)
      | (refine wv h (r_loadA8 h rfl K.u_api_Key rfl K.sz_api_Key 2 rfl (by first | rfl | assumption | (simp; done) | (simp; omega) | omega)) rfl ?_)
      | (refine wv h (r_loadA8 h rfl K.u_api_Key rfl K.sz_api_Key 3 rfl (by first | rfl | assumption | (simp; done) | (simp; omega) | omega)) rfl ?_)
      | (refine wv h (r_loadA8 h rfl K.u_api_Key rfl K.sz_api_Key 4 rfl (by first | rfl | assumption | (simp; done) | (simp; omega) | omega)) rfl ?_)
      | (refine wv h (r_loadA8 h rfl K.u_api_Key rfl K.sz_api_Key 5 rfl (by first | rfl | assumption | (simp; done) | (simp; omega) | omega)) rfl ?_)
      | (refine wv h (r_loadCA h rfl K.u_api_Key rfl K.sz_api_Key (by assumption) (by first | rfl | assumption | (simp; done) | (simp; omega) | omega)) rfl ?_)
   clear h a w; intro a w h
   refine wl rfl (op_build2R (cells := cellsA) h ky kx K.u_S_api_Key K.sz_api_Key K.z_api_Key rfl rfl rfl rfl rfl ?_)
   clear h a w; intro b47 a w h
   refine wv h (r_build (cells := ⟨comC (BA.zero 32) (.slice (some ⟨b47, 0, none⟩) 2 2) (sv [])⟩) h K.u_api_Commit K.z_api_Commit K.pl_api_Commit rfl (fill_pars _ _ _)) rfl ?_
   clear h a w; intro a w h
   have lc3 := comC_len (BA.zero 32) (.slice (some ⟨b47, 0, none⟩) 2 2) (sv [])
   have oc3 : ∀ u ∈ comC (BA.zero 32) (.slice (some ⟨b47, 0, none⟩) 2 2) (sv []), u.oneCell' = true := comC_one rfl rfl
   refine wl rfl (op_alloc h K.z_api_Commit rfl ?_)
   clear h a w; intro b13 a w h
   first
      | (refine wl rfl (op_stA h rfl rfl K.sz_api_Commit (by first | exact Row.len _ | rfl | assumption | (simp; done) | (simp; omega) | omega) (by first | exact Row.one _ | exact bs_one _ | assumption | (simp; done) | (simp; (repeat' apply And.intro) <;> first | rfl | assumption)) 0 rfl (by first | rfl | assumption | (simp; done) | (simp; omega) | omega) ?_))
      | (refine wl rfl (op_stA h rfl rfl K.sz_api_Commit (by first | exact Row.len _ | rfl | assumption | (simp; done) | (simp; omega) | omega) (by first | exact Row.one _ | exact bs_one _ | assumption | (simp; done) | (simp; (repeat' apply And.intro) <;> first | rfl | assumption)) 1 rfl (by first | rfl | assumption | (simp; done) | (simp; omega) | omega) ?_))
      | (refine wl rfl (op_stA h rfl rfl K.sz_api_Commit (by first | exact Row.len _ | rfl | assumption | (simp; done) | (simp; omega) | omega) (by first | exact Row.one _ | exact bs_one _ | assumption | (simp; done) | (simp; (repeat' apply And.intro) <;> first | rfl | assumption)) 2 rfl (by first | rfl | assumption | (simp; done) | (simp; omega) | omega) ?_))
      | (refine wl rfl (op_stA h rfl rfl K.sz_api_Commit (by first | exact Row.len _ | rfl | assumption | (simp; done) | (simp; omega) | omega) (by first | exact Row.one _ | exact bs_one _ | assumption | (simp; done) | (simp; (repeat' apply And.intro) <;> first | rfl | assumption)) 3 rfl (by first | rfl | assumption | (simp; done) | (simp; omega) | omega) ?_))
      | (refine wl rfl (op_stA h rfl rfl K.sz_api_Commit (by first | exact Row.len _ | rfl | assumption | (simp; done) | (simp; omega) | omega) (by first | exact Row.one _ | exact bs_one _ | assumption | (simp; done) | (simp; (repeat' apply And.intro) <;> first | rfl | assumption)) 4 rfl (by first | rfl | assumption | (simp; done) | (simp; omega) | omega) ?_))
      | (refine wl rfl (op_stA h rfl rfl K.sz_api_Commit (by first | exact Row.len _ | rfl | assumption | (simp; done) | (simp; omega) | omega) (by first | exact Row.one _ | exact bs_one _ | assumption | (simp; done) | (simp; (repeat' apply And.intro) <;> first | rfl | assumption)) 5 rfl (by first | rfl | assumption | (simp; done) | (simp; omega) | omega) ?_))
   clear h a w; intro a w h
   (try simp only [List.set_cons_zero, List.set_cons_succ] at h)
   refine wnil (c_then ?_)
   replace h : St _ _ _ _ _ (OwnM 32 cellsA (.slice (some ⟨b43, 0, none⟩) 2 2) [kx, ky] :: OwnM 32 cellsA (.slice (some ⟨b47, 0, none⟩) 2 2) [ky, kx] :: Blk b12 (.cells ⟨comC (BA.zero 32) (.slice (some ⟨b43, 0, none⟩) 2 2) (sv [])⟩ t_api_Commit) :: Blk b13 (.cells ⟨comC (BA.zero 32) (.slice (some ⟨b47, 0, none⟩) 2 2) (sv [])⟩ t_api_Commit) :: _) := ⟨h.1, (by have q := h.2; replace q := q.front 2 rfl; replace q := q.front 2 rfl; replace q := q.front 3 rfl; exact q)⟩
   refine c_meet h (X := Value × List Key × Value × List Key) (fun z => [(0, bv x), (1, bv y), (2, .bool ap), (7, bp b7), (8, bp b8), (9, bp b38), (10, bp b10), (11, bp b11), (12, bp b12), (13, bp b13)])
     (fun z => OwnM 32 cellsA z.1 z.2.1 :: OwnM 32 cellsA z.2.2.1 z.2.2.2 :: Blk b12 (.cells ⟨comC (BA.zero 32) z.1 (sv [])⟩ t_api_Commit) :: Blk b13 (.cells ⟨comC (BA.zero 32) z.2.2.1 (sv [])⟩ t_api_Commit) :: Blk b8 (.cells (arr8 ky.val) t_api_Key) :: Blk b7 (.cells (arr8 kx.val) t_api_Key) :: Blk b38 (.cells ⟨[.slice (some ⟨b36, 0, none⟩) 2 2, .slice none 0 0, .slice none 0 0, .slice none 0 0, .bool false]⟩ t_interleafref18_Book) :: OwnM 67 cellsN (.slice (some ⟨b36, 0, none⟩) 2 2) [x0, x1] :: Blk b11 (.cells (arr8 kq.val) t_api_Key) :: Blk b10 (.cells (arr8 kp.val) t_api_Key) :: F)
     (fun z => z.2.1 = crP x y ap ∧ z.2.2.2 = crP y x ap) ?_ ?_
   ·
    refine c_seq (c_region ?_)
    refine wv h (r_move h rfl) rfl ?_
    clear h a w; intro a w h
    refine wnil (c_then ?_)
    first
     | refine c_condD h rfl (fun ht2 => ?_) (fun ht2 => ?_)
     | refine c_condP h rfl (by first | (simp only [Bool.and_eq_true, Bool.or_eq_true, Bool.not_eq_true', decide_eq_true_eq, decide_eq_false_iff_not, ne_eq, Bool.not_eq_eq_eq_not, Bool.not_true, beq_iff_eq, bne_iff_ne]; exact Iff.rfl) | exact Iff.rfl) (fun ht2 => ?_) (fun ht2 => ?_)
    ·
     as_aux_lemma =>
      refine c_seq (c_region ?_)
      first
            | (refine wv h (r_loadA8 h rfl K.u_api_Key rfl K.sz_api_Key 0 rfl (by first | rfl | assumption | (simp; done) | (simp; omega) | omega)) rfl ?_)
            | (refine wv h (r_loadA8 h rfl K.u_api_Key rfl K.sz_api_Key 1 rfl (by first | rfl | assumption | (simp; done) | (simp; omega) | omega)) rfl ?_)
            | (refine wv h (r_loadA8 h rfl K.u_api_Key rfl K.sz_api_Key 2 rfl (by first | rfl | assumption | (simp; done) | (simp; omega) | omega)) rfl ?_)
            | (refine wv h (r_loadA8 h rfl K.u_api_Key rfl K.sz_api_Key 3 rfl (by first | rfl | assumption | (simp; done) | (simp; omega) | omega)) rfl ?_)
            | (refine wv h (r_loadA8 h rfl K.u_api_Key rfl K.sz_api_Key 4 rfl (by first | rfl | assumption | (simp; done) | (simp; omega) | omega)) rfl ?_)
            | (refine wv h (r_loadA8 h rfl K.u_api_Key rfl K.sz_api_Key 5 rfl (by first | rfl | assumption | (simp; done) | (simp; omega) | omega)) rfl ?_)
            | (refine wv h (r_loadCA h rfl K.u_api_Key rfl K.sz_api_Key (by assumption) (by first | rfl | assumption | (simp; done) | (simp; omega) | omega)) rfl ?_)
      clear h a w; intro a w h
      refine wl rfl (op_build1 (us := cellsA kx) h K.u_S_api_Key K.sz_api_Key K.z_api_Key rfl rfl rfl (Row.len kx) rfl ?_)
      clear h a w; intro b51 a w h
      replace h : St _ _ _ _ _ (OwnM 32 cellsA (.slice (some ⟨b51, 0, none⟩) 1 1) [kx] :: _) := ⟨h.1, h.2.toOwn 32 1 (NF.zero _) (by decide) (by simp) (by show (cellsA kx).length = _; rw [Row.len kx])⟩
      refine wv h (r_fieldAddr h 32 rfl K.u_api_Commit rfl K.sz_S_api_Key rfl rfl) rfl ?_
      clear h a w; intro a w h
      first
            | (refine wl rfl (op_storeN h rfl rfl K.sz_S_api_Key (by first | rfl | assumption | exact Views.oneCell (Views.own 0 rfl) h.2 | exact Views.oneCell (Views.own 1 rfl) h.2 | exact Views.oneCell (Views.own 2 rfl) h.2 | exact Views.oneCell (Views.own 3 rfl) h.2 | exact Views.oneCell (Views.own 4 rfl) h.2 | exact Views.oneCell (Views.own 5 rfl) h.2 | exact Views.oneCell (by assumption) h.2) 0 rfl rfl ?_))
            | (refine wl rfl (op_storeN h rfl rfl K.sz_S_api_Key (by first | rfl | assumption | exact Views.oneCell (Views.own 0 rfl) h.2 | exact Views.oneCell (Views.own 1 rfl) h.2 | exact Views.oneCell (Views.own 2 rfl) h.2 | exact Views.oneCell (Views.own 3 rfl) h.2 | exact Views.oneCell (Views.own 4 rfl) h.2 | exact Views.oneCell (Views.own 5 rfl) h.2 | exact Views.oneCell (by assumption) h.2) 1 rfl rfl ?_))
            | (refine wl rfl (op_storeN h rfl rfl K.sz_S_api_Key (by first | rfl | assumption | exact Views.oneCell (Views.own 0 rfl) h.2 | exact Views.oneCell (Views.own 1 rfl) h.2 | exact Views.oneCell (Views.own 2 rfl) h.2 | exact Views.oneCell (Views.own 3 rfl) h.2 | exact Views.oneCell (Views.own 4 rfl) h.2 | exact Views.oneCell (Views.own 5 rfl) h.2 | exact Views.oneCell (by assumption) h.2) 2 rfl rfl ?_))
            | (refine wl rfl (op_storeN h rfl rfl K.sz_S_api_Key (by first | rfl | assumption | exact Views.oneCell (Views.own 0 rfl) h.2 | exact Views.oneCell (Views.own 1 rfl) h.2 | exact Views.oneCell (Views.own 2 rfl) h.2 | exact Views.oneCell (Views.own 3 rfl) h.2 | exact Views.oneCell (Views.own 4 rfl) h.2 | exact Views.oneCell (Views.own 5 rfl) h.2 | exact Views.oneCell (by assumption) h.2) 3 rfl rfl ?_))
            | (refine wl rfl (op_storeN h rfl rfl K.sz_S_api_Key (by first | rfl | assumption | exact Views.oneCell (Views.own 0 rfl) h.2 | exact Views.oneCell (Views.own 1 rfl) h.2 | exact Views.oneCell (Views.own 2 rfl) h.2 | exact Views.oneCell (Views.own 3 rfl) h.2 | exact Views.oneCell (Views.own 4 rfl) h.2 | exact Views.oneCell (Views.own 5 rfl) h.2 | exact Views.oneCell (by assumption) h.2) 4 rfl rfl ?_))
            | (refine wl rfl (op_storeN h rfl rfl K.sz_S_api_Key (by first | rfl | assumption | exact Views.oneCell (Views.own 0 rfl) h.2 | exact Views.oneCell (Views.own 1 rfl) h.2 | exact Views.oneCell (Views.own 2 rfl) h.2 | exact Views.oneCell (Views.own 3 rfl) h.2 | exact Views.oneCell (Views.own 4 rfl) h.2 | exact Views.oneCell (Views.own 5 rfl) h.2 | exact Views.oneCell (by assumption) h.2) 5 rfl rfl ?_))
            | (refine wl rfl (op_storeN h rfl rfl K.sz_S_api_Key (by first | rfl | assumption | exact Views.oneCell (Views.own 0 rfl) h.2 | exact Views.oneCell (Views.own 1 rfl) h.2 | exact Views.oneCell (Views.own 2 rfl) h.2 | exact Views.oneCell (Views.own 3 rfl) h.2 | exact Views.oneCell (Views.own 4 rfl) h.2 | exact Views.oneCell (Views.own 5 rfl) h.2 | exact Views.oneCell (by assumption) h.2) 6 rfl rfl ?_))
            | (refine wl rfl (op_storeC (o := 32) h rfl rfl K.sz_S_api_Key (by first | rfl | assumption | exact Views.oneCell (Views.own 0 rfl) h.2 | exact Views.oneCell (Views.own 1 rfl) h.2 | exact Views.oneCell (Views.own 2 rfl) h.2 | exact Views.oneCell (Views.own 3 rfl) h.2 | exact Views.oneCell (Views.own 4 rfl) h.2 | exact Views.oneCell (Views.own 5 rfl) h.2 | exact Views.oneCell (by assumption) h.2) 0 rfl ?_))
            | (refine wl rfl (op_storeC (o := 32) h rfl rfl K.sz_S_api_Key (by first | rfl | assumption | exact Views.oneCell (Views.own 0 rfl) h.2 | exact Views.oneCell (Views.own 1 rfl) h.2 | exact Views.oneCell (Views.own 2 rfl) h.2 | exact Views.oneCell (Views.own 3 rfl) h.2 | exact Views.oneCell (Views.own 4 rfl) h.2 | exact Views.oneCell (Views.own 5 rfl) h.2 | exact Views.oneCell (by assumption) h.2) 1 rfl ?_))
            | (refine wl rfl (op_storeC (o := 32) h rfl rfl K.sz_S_api_Key (by first | rfl | assumption | exact Views.oneCell (Views.own 0 rfl) h.2 | exact Views.oneCell (Views.own 1 rfl) h.2 | exact Views.oneCell (Views.own 2 rfl) h.2 | exact Views.oneCell (Views.own 3 rfl) h.2 | exact Views.oneCell (Views.own 4 rfl) h.2 | exact Views.oneCell (Views.own 5 rfl) h.2 | exact Views.oneCell (by assumption) h.2) 2 rfl ?_))
            | (refine wl rfl (op_storeC (o := 32) h rfl rfl K.sz_S_api_Key (by first | rfl | assumption | exact Views.oneCell (Views.own 0 rfl) h.2 | exact Views.oneCell (Views.own 1 rfl) h.2 | exact Views.oneCell (Views.own 2 rfl) h.2 | exact Views.oneCell (Views.own 3 rfl) h.2 | exact Views.oneCell (Views.own 4 rfl) h.2 | exact Views.oneCell (Views.own 5 rfl) h.2 | exact Views.oneCell (by assumption) h.2) 3 rfl ?_))
            | (refine wl rfl (op_storeC (o := 32) h rfl rfl K.sz_S_api_Key (by first | rfl | assumption | exact Views.oneCell (Views.own 0 rfl) h.2 | exact Views.oneCell (Views.own 1 rfl) h.2 | exact Views.oneCell (Views.own 2 rfl) h.2 | exact Views.oneCell (Views.own 3 rfl) h.2 | exact Views.oneCell (Views.own 4 rfl) h.2 | exact Views.oneCell (Views.own 5 rfl) h.2 | exact Views.oneCell (by assumption) h.2) 4 rfl ?_))
            | (refine wl rfl (op_storeC (o := 32) h rfl rfl K.sz_S_api_Key (by first | rfl | assumption | exact Views.oneCell (Views.own 0 rfl) h.2 | exact Views.oneCell (Views.own 1 rfl) h.2 | exact Views.oneCell (Views.own 2 rfl) h.2 | exact Views.oneCell (Views.own 3 rfl) h.2 | exact Views.oneCell (Views.own 4 rfl) h.2 | exact Views.oneCell (Views.own 5 rfl) h.2 | exact Views.oneCell (by assumption) h.2) 5 rfl ?_))
            | (refine wl rfl (op_storeC (o := 32) h rfl rfl K.sz_S_api_Key (by first | rfl | assumption | exact Views.oneCell (Views.own 0 rfl) h.2 | exact Views.oneCell (Views.own 1 rfl) h.2 | exact Views.oneCell (Views.own 2 rfl) h.2 | exact Views.oneCell (Views.own 3 rfl) h.2 | exact Views.oneCell (Views.own 4 rfl) h.2 | exact Views.oneCell (Views.own 5 rfl) h.2 | exact Views.oneCell (by assumption) h.2) 6 rfl ?_))
      clear h a w; intro a w h
      (try simp only [List.set_cons_zero, List.set_cons_succ] at h)
      refine wnil (c_then ?_)
      refine c_region ?_
      first
            | (refine wv h (r_loadA8 h rfl K.u_api_Key rfl K.sz_api_Key 0 rfl (by first | rfl | assumption | (simp; done) | (simp; omega) | omega)) rfl ?_)
            | (refine wv h (r_loadA8 h rfl K.u_api_Key rfl K.sz_api_Key 1 rfl (by first | rfl | assumption | (simp; done) | (simp; omega) | omega)) rfl ?_)
            | (refine wv h (r_loadA8 h rfl K.u_api_Key rfl K.sz_api_Key 2 rfl (by first | rfl | assumption | (simp; done) | (simp; omega) | omega)) rfl ?_)
            | (refine wv h (r_loadA8 h rfl K.u_api_Key rfl K.sz_api_Key 3 rfl (by first | rfl | assumption | (simp; done) | (simp; omega) | omega)) rfl ?_)
            | (refine wv h (r_loadA8 h rfl K.u_api_Key rfl K.sz_api_Key 4 rfl (by first | rfl | assumption | (simp; done) | (simp; omega) | omega)) rfl ?_)
            | (refine wv h (r_loadA8 h rfl K.u_api_Key rfl K.sz_api_Key 5 rfl (by first | rfl | assumption | (simp; done) | (simp; omega) | omega)) rfl ?_)
            | (refine wv h (r_loadCA h rfl K.u_api_Key rfl K.sz_api_Key (by assumption) (by first | rfl | assumption | (simp; done) | (simp; omega) | omega)) rfl ?_)
      clear h a w; intro a w h
      refine wl rfl (op_build1 (us := cellsA ky) h K.u_S_api_Key K.sz_api_Key K.z_api_Key rfl rfl rfl (Row.len ky) rfl ?_)
      clear h a w; intro b54 a w h
      replace h : St _ _ _ _ _ (OwnM 32 cellsA (.slice (some ⟨b54, 0, none⟩) 1 1) [ky] :: _) := ⟨h.1, h.2.toOwn 32 1 (NF.zero _) (by decide) (by simp) (by show (cellsA ky).length = _; rw [Row.len ky])⟩
      refine wv h (r_fieldAddr h 32 rfl K.u_api_Commit rfl K.sz_S_api_Key rfl rfl) rfl ?_
      clear h a w; intro a w h
      first
            | (refine wl rfl (op_storeN h rfl rfl K.sz_S_api_Key (by first | rfl | assumption | exact Views.oneCell (Views.own 0 rfl) h.2 | exact Views.oneCell (Views.own 1 rfl) h.2 | exact Views.oneCell (Views.own 2 rfl) h.2 | exact Views.oneCell (Views.own 3 rfl) h.2 | exact Views.oneCell (Views.own 4 rfl) h.2 | exact Views.oneCell (Views.own 5 rfl) h.2 | exact Views.oneCell (by assumption) h.2) 0 rfl rfl ?_))
            | (refine wl rfl (op_storeN h rfl rfl K.sz_S_api_Key (by first | rfl | assumption | exact Views.oneCell (Views.own 0 rfl) h.2 | exact Views.oneCell (Views.own 1 rfl) h.2 | exact Views.oneCell (Views.own 2 rfl) h.2 | exact Views.oneCell (Views.own 3 rfl) h.2 | exact Views.oneCell (Views.own 4 rfl) h.2 | exact Views.oneCell (Views.own 5 rfl) h.2 | exact Views.oneCell (by assumption) h.2) 1 rfl rfl ?_))
            | (refine wl rfl (op_storeN h rfl rfl K.sz_S_api_Key (by first | rfl | assumption | exact Views.oneCell (Views.own 0 rfl) h.2 | exact Views.oneCell (Views.own 1 rfl) h.2 | exact Views.oneCell (Views.own 2 rfl) h.2 | exact Views.oneCell (Views.own 3 rfl) h.2 | exact Views.oneCell (Views.own 4 rfl) h.2 | exact Views.oneCell (Views.own 5 rfl) h.2 | exact Views.oneCell (by assumption) h.2) 2 rfl rfl ?_))
            | (refine wl rfl (op_storeN h rfl rfl K.sz_S_api_Key (by first | rfl | assumption | exact Views.oneCell (Views.own 0 rfl) h.2 | exact Views.oneCell (Views.own 1 rfl) h.2 | exact Views.oneCell (Views.own 2 rfl) h.2 | exact Views.oneCell (Views.own 3 rfl) h.2 | exact Views.oneCell (Views.own 4 rfl) h.2 | exact Views.oneCell (Views.own 5 rfl) h.2 | exact Views.oneCell (by assumption) h.2) 3 rfl rfl ?_))
            | (refine wl rfl (op_storeN h rfl rfl K.sz_S_api_Key (by first | rfl | assumption | exact Views.oneCell (Views.own 0 rfl) h.2 | exact Views.oneCell (Views.own 1 rfl) h.2 | exact Views.oneCell (Views.own 2 rfl) h.2 | exact Views.oneCell (Views.own 3 rfl) h.2 | exact Views.oneCell (Views.own 4 rfl) h.2 | exact Views.oneCell (Views.own 5 rfl) h.2 | exact Views.oneCell (by assumption) h.2) 4 rfl rfl ?_))
            | (refine wl rfl (op_storeN h rfl rfl K.sz_S_api_Key (by first | rfl | assumption | exact Views.oneCell (Views.own 0 rfl) h.2 | exact Views.oneCell (Views.own 1 rfl) h.2 | exact Views.oneCell (Views.own 2 rfl) h.2 | exact Views.oneCell (Views.own 3 rfl) h.2 | exact Views.oneCell (Views.own 4 rfl) h.2 | exact Views.oneCell (Views.own 5 rfl) h.2 | exact Views.oneCell (by assumption) h.2) 5 rfl rfl ?_))
            | (refine wl rfl (op_storeN h rfl rfl K.sz_S_api_Key (by first | rfl | assumption | exact Views.oneCell (Views.own 0 rfl) h.2 | exact Views.oneCell (Views.own 1 rfl) h.2 | exact Views.oneCell (Views.own 2 rfl) h.2 | exact Views.oneCell (Views.own 3 rfl) h.2 | exact Views.oneCell (Views.own 4 rfl) h.2 | exact Views.oneCell (Views.own 5 rfl) h.2 | exact Views.oneCell (by assumption) h.2) 6 rfl rfl ?_))
            | (refine wl rfl (op_storeC (o := 32) h rfl rfl K.sz_S_api_Key (by first | rfl | assumption | exact Views.oneCell (Views.own 0 rfl) h.2 | exact Views.oneCell (Views.own 1 rfl) h.2 | exact Views.oneCell (Views.own 2 rfl) h.2 | exact Views.oneCell (Views.own 3 rfl) h.2 | exact Views.oneCell (Views.own 4 rfl) h.2 | exact Views.oneCell (Views.own 5 rfl) h.2 | exact Views.oneCell (by assumption) h.2) 0 rfl ?_))
            | (refine wl rfl (op_storeC (o := 32) h rfl rfl K.sz_S_api_Key (by first | rfl | assumption | exact Views.oneCell (Views.own 0 rfl) h.2 | exact Views.oneCell (Views.own 1 rfl) h.2 | exact Views.oneCell (Views.own 2 rfl) h.2 | exact Views.oneCell (Views.own 3 rfl) h.2 | exact Views.oneCell (Views.own 4 rfl) h.2 | exact Views.oneCell (Views.own 5 rfl) h.2 | exact Views.oneCell (by assumption) h.2) 1 rfl ?_))
            | (refine wl rfl (op_storeC (o := 32) h rfl rfl K.sz_S_api_Key (by first | rfl | assumption | exact Views.oneCell (Views.own 0 rfl) h.2 | exact Views.oneCell (Views.own 1 rfl) h.2 | exact Views.oneCell (Views.own 2 rfl) h.2 | exact Views.oneCell (Views.own 3 rfl) h.2 | exact Views.oneCell (Views.own 4 rfl) h.2 | exact Views.oneCell (Views.own 5 rfl) h.2 | exact Views.oneCell (by assumption) h.2) 2 rfl ?_))
            | (refine wl rfl (op_storeC (o := 32) h rfl rfl K.sz_S_api_Key (by first | rfl | assumption | exact Views.oneCell (Views.own 0 rfl) h.2 | exact Views.oneCell (Views.own 1 rfl) h.2 | exact Views.oneCell (Views.own 2 rfl) h.2 | exact Views.oneCell (Views.own 3 rfl) h.2 | exact Views.oneCell (Views.own 4 rfl) h.2 | exact Views.oneCell (Views.own 5 rfl) h.2 | exact Views.oneCell (by assumption) h.2) 3 rfl ?_))
            | (refine wl rfl (op_storeC (o := 32) h rfl rfl K.sz_S_api_Key (by first | rfl | assumption | exact Views.oneCell (Views.own 0 rfl) h.2 | exact Views.oneCell (Views.own 1 rfl) h.2 | exact Views.oneCell (Views.own 2 rfl) h.2 | exact Views.oneCell (Views.own 3 rfl) h.2 | exact Views.oneCell (Views.own 4 rfl) h.2 | exact Views.oneCell (Views.own 5 rfl) h.2 | exact Views.oneCell (by assumption) h.2) 4 rfl ?_))
            | (refine wl rfl (op_storeC (o := 32) h rfl rfl K.sz_S_api_Key (by first | rfl | assumption | exact Views.oneCell (Views.own 0 rfl) h.2 | exact Views.oneCell (Views.own 1 rfl) h.2 | exact Views.oneCell (Views.own 2 rfl) h.2 | exact Views.oneCell (Views.own 3 rfl) h.2 | exact Views.oneCell (Views.own 4 rfl) h.2 | exact Views.oneCell (Views.own 5 rfl) h.2 | exact Views.oneCell (by assumption) h.2) 5 rfl ?_))
            | (refine wl rfl (op_storeC (o := 32) h rfl rfl K.sz_S_api_Key (by first | rfl | assumption | exact Views.oneCell (Views.own 0 rfl) h.2 | exact Views.oneCell (Views.own 1 rfl) h.2 | exact Views.oneCell (Views.own 2 rfl) h.2 | exact Views.oneCell (Views.own 3 rfl) h.2 | exact Views.oneCell (Views.own 4 rfl) h.2 | exact Views.oneCell (Views.own 5 rfl) h.2 | exact Views.oneCell (by assumption) h.2) 6 rfl ?_))
      clear h a w; intro a w h
      (try simp only [List.set_cons_zero, List.set_cons_succ] at h)
      refine wnil ?_
      replace h := h.mem (fun q => (((q.front 1 rfl).front 2 rfl).tail.front 2 rfl).tail)
      exact ⟨(.slice (some ⟨b51, 0, none⟩) 1 1, [kx], .slice (some ⟨b54, 0, none⟩) 1 1, [ky]), h.keep [0, 1, 2, 7, 8, 9, 10, 11, 12, 13], by rw [crP, if_pos ht2, hkx], by rw [crP, if_pos ht2, hky]⟩
    ·
     refine c_skip ?_
     exact ⟨(.slice (some ⟨b43, 0, none⟩) 2 2, [kx, ky], .slice (some ⟨b47, 0, none⟩) 2 2, [ky, kx]), h.keep [0, 1, 2, 7, 8, 9, 10, 11, 12, 13], by rw [crP, if_neg (by simp [ht2]), hkx, hky], by rw [crP, if_neg (by simp [ht2]), hkx, hky]⟩
   ·
    clear h a w; intro z a w hz h
    obtain ⟨pv, ps, qv, qs⟩ := z
    obtain ⟨hz1, hz2⟩ := hz
    simp only at hz1 hz2 h
    obtain ⟨A, cap, rfl, _⟩ := (Views.own 0 rfl).shape h.2
    obtain ⟨Bq, cap2, rfl, _⟩ := (Views.own 1 rfl).shape h.2
    have hpl : ps.length ≤ 2 := by rw [hz1]; exact crP_len _ _ _
    have hql : qs.length ≤ 2 := by rw [hz2]; exact crP_len _ _ _
    obtain ⟨x2, hx2⟩ : ∃ z : NodeV, z = ⟨kp, BA.zero 32, A, ps.length, cap, [], ps⟩ := ⟨_, rfl⟩
    obtain ⟨x3, hx3⟩ : ∃ z : NodeV, z = ⟨kq, BA.zero 32, Bq, qs.length, cap2, [], qs⟩ := ⟨_, rfl⟩
    have lc4 := comC_len (BA.zero 32) (.slice A ps.length cap) (sv [])
    have lc5 := comC_len (BA.zero 32) (.slice Bq qs.length cap2) (sv [])
    have hf2 := fill_node kp (comC (BA.zero 32) (.slice A ps.length cap) (sv [])) lc4
    have hf3 := fill_node kq (comC (BA.zero 32) (.slice Bq qs.length cap2) (sv [])) lc5
    have hc2 : cellsN x2 = bs kp.val ++ (comC (BA.zero 32) (.slice A ps.length cap) (sv []) ++ [.slice none 0 0]) := by rw [hx2]; rfl
    have hc3 : cellsN x3 = bs kq.val ++ (comC (BA.zero 32) (.slice Bq qs.length cap2) (sv []) ++ [.slice none 0 0]) := by rw [hx3]; rfl
    replace h := h.mem (fun q => satParsSome (xs := [x0, x1]) (by
      intro z hz
      simp only [List.mem_cons, List.not_mem_nil, or_false] at hz
      rcases hz with rfl | rfl
      · rw [hx0]; exact ⟨rfl, rfl⟩
      · rw [hx1]; exact ⟨rfl, rfl⟩) q)
    replace h : St _ _ _ _ _ (OwnM 67 cellsN (.slice (some ⟨b36, 0, none⟩) 2 2) [x0, x1] :: Blk b38 _ :: Blk b12 (.cells ⟨comC (BA.zero 32) (.slice A ps.length cap) (sv [])⟩ t_api_Commit) :: Blk b13 (.cells ⟨comC (BA.zero 32) (.slice Bq qs.length cap2) (sv [])⟩ t_api_Commit) :: OwnM 32 cellsA (.slice A ps.length cap) ps :: OwnM 32 cellsA (.slice Bq qs.length cap2) qs :: Blk b11 (.cells (arr8 kq.val) t_api_Key) :: Blk b10 (.cells (arr8 kp.val) t_api_Key) :: ParsI [x0, x1] :: Blk b8 (.cells (arr8 ky.val) t_api_Key) :: Blk b7 (.cells (arr8 kx.val) t_api_Key) :: F) := ⟨h.1, (by have q := h.2; replace q := q.front 6 rfl; replace q := q.front 6 rfl; replace q := q.front 2 rfl; replace q := q.front 10 rfl; replace q := q.front 10 rfl; replace q := q.front 6 rfl; replace q := q.front 6 rfl; replace q := q.front 8 rfl; replace q := q.front 8 rfl; replace q := q.front 9 rfl; replace q := q.front 10 rfl; exact q)⟩
    refine c_seq (c_drawn 16 K.mixed rfl h ?_)
    clear h a w; intro a w h
    have hD : Paid s w [] := Paid.nil
    refine d_take0 (listed' := #[true, false, false, false, false, false, false, false, false, false, false, false, false, false, false, false]) h hD 0 (by as_aux_lemma => kernel_rfl) rfl (by as_aux_lemma => kernel_rfl) (by as_aux_lemma => kernel_rfl) (by as_aux_lemma => kernel_rfl) (fun _ _ _ _ hh => hh) (fun w h => by first | exact r_move h rfl) rfl ?_
    clear hD h a w; intro a w h hD
    refine d_take0 (listed' := #[true, true, false, false, false, false, false, false, false, false, false, false, false, false, false, false]) h hD 1 (by as_aux_lemma => kernel_rfl) rfl (by as_aux_lemma => kernel_rfl) (by as_aux_lemma => kernel_rfl) (by as_aux_lemma => kernel_rfl) (fun _ _ _ _ hh => hh) (fun w h => by first | exact r_move h rfl) rfl ?_
    clear hD h a w; intro a w h hD
    refine d_take0 (listed' := #[true, true, true, false, false, false, false, false, false, false, false, false, false, false, false, false]) h hD 2 (by as_aux_lemma => kernel_rfl) rfl (by as_aux_lemma => kernel_rfl) (by as_aux_lemma => kernel_rfl) (by as_aux_lemma => kernel_rfl) (fun _ _ _ _ hh => hh) (fun w h => by first | exact r_nilCheck h rfl) rfl ?_
    clear hD h a w; intro a w h hD
    refine d_take0 (listed' := #[true, true, true, true, false, false, false, false, false, false, false, false, false, false, false, false]) h hD 3 (by as_aux_lemma => kernel_rfl) rfl (by as_aux_lemma => kernel_rfl) (by as_aux_lemma => kernel_rfl) (by as_aux_lemma => kernel_rfl) (fun _ _ _ _ hh => hh) (fun w h => by first | exact r_fieldAddr0 h rfl K.u_interleafref18_Book rfl K.sz_S_interleafref18_Node rfl rfl) rfl ?_
    clear hD h a w; intro a w h hD
    refine d_take (listed' := #[true, true, true, true, true, false, false, false, false, false, false, false, false, false, false, false]) h hD 4 _ (by as_aux_lemma => kernel_rfl) rfl (by as_aux_lemma => kernel_rfl) (by as_aux_lemma => kernel_rfl) (by as_aux_lemma => kernel_rfl) (fun _ _ _ _ hh => hh) h.2 (fun w hw => by first | exact r_ldN ⟨h.1, hw⟩ rfl K.u_S_interleafref18_Node rfl 0 rfl rfl | exact r_ldN ⟨h.1, hw⟩ rfl K.u_S_interleafref18_Node rfl 1 rfl rfl | exact r_ldN ⟨h.1, hw⟩ rfl K.u_S_interleafref18_Node rfl 2 rfl rfl | exact r_ldN ⟨h.1, hw⟩ rfl K.u_S_interleafref18_Node rfl 3 rfl rfl | exact r_ldN ⟨h.1, hw⟩ rfl K.u_S_interleafref18_Node rfl 4 rfl rfl | exact r_ldN ⟨h.1, hw⟩ rfl K.u_S_interleafref18_Node rfl 5 rfl rfl | exact r_ldN ⟨h.1, hw⟩ rfl K.u_S_interleafref18_Node rfl 6 rfl rfl | exact r_ldC (o := 0) ⟨h.1, hw⟩ rfl K.u_S_interleafref18_Node rfl 0 rfl | exact r_ldC (o := 0) ⟨h.1, hw⟩ rfl K.u_S_interleafref18_Node rfl 1 rfl | exact r_ldC (o := 0) ⟨h.1, hw⟩ rfl K.u_S_interleafref18_Node rfl 2 rfl | exact r_ldC (o := 0) ⟨h.1, hw⟩ rfl K.u_S_interleafref18_Node rfl 3 rfl | exact r_ldC (o := 0) ⟨h.1, hw⟩ rfl K.u_S_interleafref18_Node rfl 4 rfl | exact r_ldC (o := 0) ⟨h.1, hw⟩ rfl K.u_S_interleafref18_Node rfl 5 rfl | exact r_ldC (o := 0) ⟨h.1, hw⟩ rfl K.u_S_interleafref18_Node rfl 6 rfl | exact r_load ⟨h.1, hw⟩ rfl K.u_S_interleafref18_Node rfl 0 rfl rfl | exact r_load ⟨h.1, hw⟩ rfl K.u_S_interleafref18_Node rfl 1 rfl rfl | exact r_load ⟨h.1, hw⟩ rfl K.u_S_interleafref18_Node rfl 2 rfl rfl | exact r_load ⟨h.1, hw⟩ rfl K.u_S_interleafref18_Node rfl 3 rfl rfl | exact r_load ⟨h.1, hw⟩ rfl K.u_S_interleafref18_Node rfl 4 rfl rfl | exact r_load ⟨h.1, hw⟩ rfl K.u_S_interleafref18_Node rfl 5 rfl rfl | exact r_load1 ⟨h.1, hw⟩ rfl K.u_S_interleafref18_Node rfl (by assumption)) rfl ?_
    clear hD h a w; intro a w h hD
    refine d_take (listed' := #[true, true, true, true, true, true, false, false, false, false, false, false, false, false, false, false]) h hD 5 ((Blk b12 (.cells ⟨comC (BA.zero 32) (.slice A ps.length cap) (sv [])⟩ t_api_Commit) :: Blk b13 (.cells ⟨comC (BA.zero 32) (.slice Bq qs.length cap2) (sv [])⟩ t_api_Commit) :: OwnM 32 cellsA (.slice A ps.length cap) ps :: OwnM 32 cellsA (.slice Bq qs.length cap2) qs :: Blk b11 (.cells (arr8 kq.val) t_api_Key) :: Blk b10 (.cells (arr8 kp.val) t_api_Key) :: ParsI [x0, x1] :: Blk b8 (.cells (arr8 ky.val) t_api_Key) :: Blk b7 (.cells (arr8 kx.val) t_api_Key) :: F)) (by as_aux_lemma => kernel_rfl) rfl (by as_aux_lemma => kernel_rfl) (by as_aux_lemma => kernel_rfl) (by as_aux_lemma => kernel_rfl) (fun _ _ _ _ hh => hh) (by first | exact h.2 | exact h.2.drop 1 | exact h.2.drop 2 | exact h.2.drop 3 | exact h.2.drop 4 | exact h.2.drop 5 | exact h.2.drop 6 | exact h.2.drop 7) (fun w hw => by first | exact r_loadA8 ⟨h.1, hw⟩ rfl K.u_api_Key rfl K.sz_api_Key 0 rfl (by first | rfl | assumption | (simp; done) | (simp; omega) | omega) | exact r_loadA8 ⟨h.1, hw⟩ rfl K.u_api_Key rfl K.sz_api_Key 1 rfl (by first | rfl | assumption | (simp; done) | (simp; omega) | omega) | exact r_loadA8 ⟨h.1, hw⟩ rfl K.u_api_Key rfl K.sz_api_Key 2 rfl (by first | rfl | assumption | (simp; done) | (simp; omega) | omega) | exact r_loadA8 ⟨h.1, hw⟩ rfl K.u_api_Key rfl K.sz_api_Key 3 rfl (by first | rfl | assumption | (simp; done) | (simp; omega) | omega) | exact r_loadA8 ⟨h.1, hw⟩ rfl K.u_api_Key rfl K.sz_api_Key 4 rfl (by first | rfl | assumption | (simp; done) | (simp; omega) | omega) | exact r_loadA8 ⟨h.1, hw⟩ rfl K.u_api_Key rfl K.sz_api_Key 5 rfl (by first | rfl | assumption | (simp; done) | (simp; omega) | omega) | exact r_loadCA ⟨h.1, hw⟩ rfl K.u_api_Key rfl K.sz_api_Key (by assumption) (by first | rfl | assumption | (simp; done) | (simp; omega) | omega)) rfl ?_
    clear hD h a w; intro a w h hD
    refine d_take (listed' := #[true, true, true, true, true, true, true, false, false, false, false, false, false, false, false, false]) h hD 6 ((Blk b12 (.cells ⟨comC (BA.zero 32) (.slice A ps.length cap) (sv [])⟩ t_api_Commit) :: Blk b13 (.cells ⟨comC (BA.zero 32) (.slice Bq qs.length cap2) (sv [])⟩ t_api_Commit) :: OwnM 32 cellsA (.slice A ps.length cap) ps :: OwnM 32 cellsA (.slice Bq qs.length cap2) qs :: Blk b11 (.cells (arr8 kq.val) t_api_Key) :: Blk b10 (.cells (arr8 kp.val) t_api_Key) :: ParsI [x0, x1] :: Blk b8 (.cells (arr8 ky.val) t_api_Key) :: Blk b7 (.cells (arr8 kx.val) t_api_Key) :: F)) (by as_aux_lemma => kernel_rfl) rfl (by as_aux_lemma => kernel_rfl) (by as_aux_lemma => kernel_rfl) (by as_aux_lemma => kernel_rfl) (fun _ _ _ _ hh => hh) (by first | exact h.2 | exact h.2.drop 1 | exact h.2.drop 2 | exact h.2.drop 3 | exact h.2.drop 4 | exact h.2.drop 5 | exact h.2.drop 6 | exact h.2.drop 7) (fun w hw => by first | exact r_ldA ⟨h.1, hw⟩ rfl K.u_api_Commit rfl K.sz_api_Commit 0 rfl (by first | exact Row.len _ | rfl | assumption | (simp; done) | (simp; omega) | omega) | exact r_ldA ⟨h.1, hw⟩ rfl K.u_api_Commit rfl K.sz_api_Commit 1 rfl (by first | exact Row.len _ | rfl | assumption | (simp; done) | (simp; omega) | omega) | exact r_ldA ⟨h.1, hw⟩ rfl K.u_api_Commit rfl K.sz_api_Commit 2 rfl (by first | exact Row.len _ | rfl | assumption | (simp; done) | (simp; omega) | omega) | exact r_ldA ⟨h.1, hw⟩ rfl K.u_api_Commit rfl K.sz_api_Commit 3 rfl (by first | exact Row.len _ | rfl | assumption | (simp; done) | (simp; omega) | omega) | exact r_ldA ⟨h.1, hw⟩ rfl K.u_api_Commit rfl K.sz_api_Commit 4 rfl (by first | exact Row.len _ | rfl | assumption | (simp; done) | (simp; omega) | omega) | exact r_ldA ⟨h.1, hw⟩ rfl K.u_api_Commit rfl K.sz_api_Commit 5 rfl (by first | exact Row.len _ | rfl | assumption | (simp; done) | (simp; omega) | omega) | exact r_loadCA ⟨h.1, hw⟩ rfl K.u_api_Commit rfl K.sz_api_Commit (by assumption) (by first | rfl | assumption | (simp; done) | (simp; omega) | omega)) rfl ?_
    clear hD h a w; intro a w h hD
    refine d_take0 (listed' := #[true, true, true, true, true, true, true, true, false, false, false, false, false, false, false, false]) h hD 7 (by as_aux_lemma => kernel_rfl) rfl (by as_aux_lemma => kernel_rfl) (by as_aux_lemma => kernel_rfl) (by as_aux_lemma => kernel_rfl) (fun _ _ _ _ hh => hh) (fun w h => by first | exact r_build (cells := ⟨cellsN x2⟩) h K.u_interleafref18_Node K.z_interleafref18_Node K.pl_interleafref18_Node rfl (by rw [hc2]; exact hf2 _ rfl rfl)) rfl ?_
    clear hD h a w; intro a w h hD
    refine d_take (listed' := #[true, true, true, true, true, true, true, true, true, false, false, false, false, false, false, false]) h hD 8 ((Blk b12 (.cells ⟨comC (BA.zero 32) (.slice A ps.length cap) (sv [])⟩ t_api_Commit) :: Blk b13 (.cells ⟨comC (BA.zero 32) (.slice Bq qs.length cap2) (sv [])⟩ t_api_Commit) :: OwnM 32 cellsA (.slice A ps.length cap) ps :: OwnM 32 cellsA (.slice Bq qs.length cap2) qs :: Blk b11 (.cells (arr8 kq.val) t_api_Key) :: Blk b10 (.cells (arr8 kp.val) t_api_Key) :: ParsI [x0, x1] :: Blk b8 (.cells (arr8 ky.val) t_api_Key) :: Blk b7 (.cells (arr8 kx.val) t_api_Key) :: F)) (by as_aux_lemma => kernel_rfl) rfl (by as_aux_lemma => kernel_rfl) (by as_aux_lemma => kernel_rfl) (by as_aux_lemma => kernel_rfl) (fun _ _ _ _ hh => hh) (by first | exact h.2 | exact h.2.drop 1 | exact h.2.drop 2 | exact h.2.drop 3 | exact h.2.drop 4 | exact h.2.drop 5 | exact h.2.drop 6 | exact h.2.drop 7) (fun w hw => by first | exact r_loadA8 ⟨h.1, hw⟩ rfl K.u_api_Key rfl K.sz_api_Key 0 rfl (by first | rfl | assumption | (simp; done) | (simp; omega) | omega) | exact r_loadA8 ⟨h.1, hw⟩ rfl K.u_api_Key rfl K.sz_api_Key 1 rfl (by first | rfl | assumption | (simp; done) | (simp; omega) | omega) | exact r_loadA8 ⟨h.1, hw⟩ rfl K.u_api_Key rfl K.sz_api_Key 2 rfl (by first | rfl | assumption | (simp; done) | (simp; omega) | omega) | exact r_loadA8 ⟨h.1, hw⟩ rfl K.u_api_Key rfl K.sz_api_Key 3 rfl (by first | rfl | assumption | (simp; done) | (simp; omega) | omega) | exact r_loadA8 ⟨h.1, hw⟩ rfl K.u_api_Key rfl K.sz_api_Key 4 rfl (by first | rfl | assumption | (simp; done) | (simp; omega) | omega) | exact r_loadA8 ⟨h.1, hw⟩ rfl K.u_api_Key rfl K.sz_api_Key 5 rfl (by first | rfl | assumption | (simp; done) | (simp; omega) | omega) | exact r_loadCA ⟨h.1, hw⟩ rfl K.u_api_Key rfl K.sz_api_Key (by assumption) (by first | rfl | assumption | (simp; done) | (simp; omega) | omega)) rfl ?_
    clear hD h a w; intro a w h hD
    refine d_take (listed' := #[true, true, true, true, true, true, true, true, true, true, false, false, false, false, false, false]) h hD 9 ((Blk b12 (.cells ⟨comC (BA.zero 32) (.slice A ps.length cap) (sv [])⟩ t_api_Commit) :: Blk b13 (.cells ⟨comC (BA.zero 32) (.slice Bq qs.length cap2) (sv [])⟩ t_api_Commit) :: OwnM 32 cellsA (.slice A ps.length cap) ps :: OwnM 32 cellsA (.slice Bq qs.length cap2) qs :: Blk b11 (.cells (arr8 kq.val) t_api_Key) :: Blk b10 (.cells (arr8 kp.val) t_api_Key) :: ParsI [x0, x1] :: Blk b8 (.cells (arr8 ky.val) t_api_Key) :: Blk b7 (.cells (arr8 kx.val) t_api_Key) :: F)) (by as_aux_lemma => kernel_rfl) rfl (by as_aux_lemma => kernel_rfl) (by as_aux_lemma => kernel_rfl) (by as_aux_lemma => kernel_rfl) (fun _ _ _ _ hh => hh) (by first | exact h.2 | exact h.2.drop 1 | exact h.2.drop 2 | exact h.2.drop 3 | exact h.2.drop 4 | exact h.2.drop 5 | exact h.2.drop 6 | exact h.2.drop 7) (fun w hw => by first | exact r_ldA ⟨h.1, hw⟩ rfl K.u_api_Commit rfl K.sz_api_Commit 0 rfl (by first | exact Row.len _ | rfl | assumption | (simp; done) | (simp; omega) | omega) | exact r_ldA ⟨h.1, hw⟩ rfl K.u_api_Commit rfl K.sz_api_Commit 1 rfl (by first | exact Row.len _ | rfl | assumption | (simp; done) | (simp; omega) | omega) | exact r_ldA ⟨h.1, hw⟩ rfl K.u_api_Commit rfl K.sz_api_Commit 2 rfl (by first | exact Row.len _ | rfl | assumption | (simp; done) | (simp; omega) | omega) | exact r_ldA ⟨h.1, hw⟩ rfl K.u_api_Commit rfl K.sz_api_Commit 3 rfl (by first | exact Row.len _ | rfl | assumption | (simp; done) | (simp; omega) | omega) | exact r_ldA ⟨h.1, hw⟩ rfl K.u_api_Commit rfl K.sz_api_Commit 4 rfl (by first | exact Row.len _ | rfl | assumption | (simp; done) | (simp; omega) | omega) | exact r_ldA ⟨h.1, hw⟩ rfl K.u_api_Commit rfl K.sz_api_Commit 5 rfl (by first | exact Row.len _ | rfl | assumption | (simp; done) | (simp; omega) | omega) | exact r_loadCA ⟨h.1, hw⟩ rfl K.u_api_Commit rfl K.sz_api_Commit (by assumption) (by first | rfl | assumption | (simp; done) | (simp; omega) | omega)) rfl ?_
    clear hD h a w; intro a w h hD
    refine d_take0 (listed' := #[true, true, true, true, true, true, true, true, true, true, true, false, false, false, false, false]) h hD 10 (by as_aux_lemma => kernel_rfl) rfl (by as_aux_lemma => kernel_rfl) (by as_aux_lemma => kernel_rfl) (by as_aux_lemma => kernel_rfl) (fun _ _ _ _ hh => hh) (fun w h => by first | exact r_build (cells := ⟨cellsN x3⟩) h K.u_interleafref18_Node K.z_interleafref18_Node K.pl_interleafref18_Node rfl (by rw [hc3]; exact hf3 _ rfl rfl)) rfl ?_
    clear hD h a w; intro a w h hD
    refine d_only (listed' := #[true, true, true, true, true, true, true, true, true, true, true, true, false, false, false, false]) 11 [true, true, true, true, true] (by as_aux_lemma => kernel_rfl) rfl rfl (by as_aux_lemma => kernel_rfl) (by as_aux_lemma => kernel_rfl) ?_
    refine op_build2R (cells := cellsN) h x2 x3 K.u_S_interleafref18_Node K.sz_interleafref18_Node K.z_interleafref18_Node rfl rfl rfl rfl rfl ?_
    clear hD h a w; intro b67 a w h
    refine d_pay (Paid.cons (by first | exact h.2 | exact h.2.drop 1 | exact h.2.drop 2 | exact h.2.drop 3 | exact h.2.drop 4 | exact h.2.drop 5 | exact h.2.drop 6 | exact h.2.drop 7) (Paid.cons (by first | exact h.2 | exact h.2.drop 1 | exact h.2.drop 2 | exact h.2.drop 3 | exact h.2.drop 4 | exact h.2.drop 5 | exact h.2.drop 6 | exact h.2.drop 7) (Paid.cons (by first | exact h.2 | exact h.2.drop 1 | exact h.2.drop 2 | exact h.2.drop 3 | exact h.2.drop 4 | exact h.2.drop 5 | exact h.2.drop 6 | exact h.2.drop 7) (Paid.cons (by first | exact h.2 | exact h.2.drop 1 | exact h.2.drop 2 | exact h.2.drop 3 | exact h.2.drop 4 | exact h.2.drop 5 | exact h.2.drop 6 | exact h.2.drop 7) (Paid.cons (by first | exact h.2 | exact h.2.drop 1 | exact h.2.drop 2 | exact h.2.drop 3 | exact h.2.drop 4 | exact h.2.drop 5 | exact h.2.drop 6 | exact h.2.drop 7) (Paid.nil)))))) (fun hD => ?_)
    refine d_only (listed' := #[true, true, true, true, true, true, true, true, true, true, true, true, true, false, false, false]) 12 [true, true, true, true, false] (by as_aux_lemma => kernel_rfl) rfl rfl (by as_aux_lemma => kernel_rfl) (by as_aux_lemma => kernel_rfl) ?_
    refine op_appendR (cells := cellsN) (m := [x2, x3]) h rfl rfl K.u_S_interleafref18_Node K.sz_interleafref18_Node K.z_interleafref18_Node rfl rfl 1 rfl (Views.own 0 rfl) (by simp) rfl ?_
    clear hD h a w; intro v68 a w h
    refine d_pay (Paid.cons (by first | exact h.2 | exact h.2.drop 1 | exact h.2.drop 2 | exact h.2.drop 3 | exact h.2.drop 4 | exact h.2.drop 5 | exact h.2.drop 6 | exact h.2.drop 7) (Paid.cons (by first | exact h.2 | exact h.2.drop 1 | exact h.2.drop 2 | exact h.2.drop 3 | exact h.2.drop 4 | exact h.2.drop 5 | exact h.2.drop 6 | exact h.2.drop 7) (Paid.cons (by first | exact h.2 | exact h.2.drop 1 | exact h.2.drop 2 | exact h.2.drop 3 | exact h.2.drop 4 | exact h.2.drop 5 | exact h.2.drop 6 | exact h.2.drop 7) (Paid.cons (by first | exact h.2 | exact h.2.drop 1 | exact h.2.drop 2 | exact h.2.drop 3 | exact h.2.drop 4 | exact h.2.drop 5 | exact h.2.drop 6 | exact h.2.drop 7) (Paid.nil))))) (fun hD => ?_)
    refine d_take0 (listed' := #[true, true, true, true, true, true, true, true, true, true, true, true, true, true, false, false]) h hD 13 (by as_aux_lemma => kernel_rfl) rfl (by as_aux_lemma => kernel_rfl) (by as_aux_lemma => kernel_rfl) (by as_aux_lemma => kernel_rfl) (fun _ _ _ _ hh => hh) (fun w h => by first | exact r_nilCheck h rfl) rfl ?_
    clear hD h a w; intro a w h hD
    refine d_take0 (listed' := #[true, true, true, true, true, true, true, true, true, true, true, true, true, true, true, false]) h hD 14 (by as_aux_lemma => kernel_rfl) rfl (by as_aux_lemma => kernel_rfl) (by as_aux_lemma => kernel_rfl) (by as_aux_lemma => kernel_rfl) (fun _ _ _ _ hh => hh) (fun w h => by first | exact r_fieldAddr0 h rfl K.u_interleafref18_Book rfl K.sz_S_interleafref18_Node rfl rfl) rfl ?_
    clear hD h a w; intro a w h hD
    refine d_only (listed' := #[true, true, true, true, true, true, true, true, true, true, true, true, true, true, true, true]) 15 [false, false, false, false] (by as_aux_lemma => kernel_rfl) rfl rfl (by as_aux_lemma => kernel_rfl) (by as_aux_lemma => kernel_rfl) ?_
    first
        | (refine op_storeN h rfl rfl K.sz_S_interleafref18_Node (by first | rfl | assumption | exact Views.oneCell (Views.own 0 rfl) h.2 | exact Views.oneCell (Views.own 1 rfl) h.2 | exact Views.oneCell (Views.own 2 rfl) h.2 | exact Views.oneCell (Views.own 3 rfl) h.2 | exact Views.oneCell (Views.own 4 rfl) h.2 | exact Views.oneCell (Views.own 5 rfl) h.2 | exact Views.oneCell (by assumption) h.2) 0 rfl rfl ?_)
        | (refine op_storeN h rfl rfl K.sz_S_interleafref18_Node (by first | rfl | assumption | exact Views.oneCell (Views.own 0 rfl) h.2 | exact Views.oneCell (Views.own 1 rfl) h.2 | exact Views.oneCell (Views.own 2 rfl) h.2 | exact Views.oneCell (Views.own 3 rfl) h.2 | exact Views.oneCell (Views.own 4 rfl) h.2 | exact Views.oneCell (Views.own 5 rfl) h.2 | exact Views.oneCell (by assumption) h.2) 1 rfl rfl ?_)
        | (refine op_storeN h rfl rfl K.sz_S_interleafref18_Node (by first | rfl | assumption | exact Views.oneCell (Views.own 0 rfl) h.2 | exact Views.oneCell (Views.own 1 rfl) h.2 | exact Views.oneCell (Views.own 2 rfl) h.2 | exact Views.oneCell (Views.own 3 rfl) h.2 | exact Views.oneCell (Views.own 4 rfl) h.2 | exact Views.oneCell (Views.own 5 rfl) h.2 | exact Views.oneCell (by assumption) h.2) 2 rfl rfl ?_)
        | (refine op_storeN h rfl rfl K.sz_S_interleafref18_Node (by first | rfl | assumption | exact Views.oneCell (Views.own 0 rfl) h.2 | exact Views.oneCell (Views.own 1 rfl) h.2 | exact Views.oneCell (Views.own 2 rfl) h.2 | exact Views.oneCell (Views.own 3 rfl) h.2 | exact Views.oneCell (Views.own 4 rfl) h.2 | exact Views.oneCell (Views.own 5 rfl) h.2 | exact Views.oneCell (by assumption) h.2) 3 rfl rfl ?_)
        | (refine op_storeN h rfl rfl K.sz_S_interleafref18_Node (by first | rfl | assumption | exact Views.oneCell (Views.own 0 rfl) h.2 | exact Views.oneCell (Views.own 1 rfl) h.2 | exact Views.oneCell (Views.own 2 rfl) h.2 | exact Views.oneCell (Views.own 3 rfl) h.2 | exact Views.oneCell (Views.own 4 rfl) h.2 | exact Views.oneCell (Views.own 5 rfl) h.2 | exact Views.oneCell (by assumption) h.2) 4 rfl rfl ?_)
        | (refine op_storeN h rfl rfl K.sz_S_interleafref18_Node (by first | rfl | assumption | exact Views.oneCell (Views.own 0 rfl) h.2 | exact Views.oneCell (Views.own 1 rfl) h.2 | exact Views.oneCell (Views.own 2 rfl) h.2 | exact Views.oneCell (Views.own 3 rfl) h.2 | exact Views.oneCell (Views.own 4 rfl) h.2 | exact Views.oneCell (Views.own 5 rfl) h.2 | exact Views.oneCell (by assumption) h.2) 5 rfl rfl ?_)
        | (refine op_storeN h rfl rfl K.sz_S_interleafref18_Node (by first | rfl | assumption | exact Views.oneCell (Views.own 0 rfl) h.2 | exact Views.oneCell (Views.own 1 rfl) h.2 | exact Views.oneCell (Views.own 2 rfl) h.2 | exact Views.oneCell (Views.own 3 rfl) h.2 | exact Views.oneCell (Views.own 4 rfl) h.2 | exact Views.oneCell (Views.own 5 rfl) h.2 | exact Views.oneCell (by assumption) h.2) 6 rfl rfl ?_)
        | (refine op_storeC (o := 0) h rfl rfl K.sz_S_interleafref18_Node (by first | rfl | assumption | exact Views.oneCell (Views.own 0 rfl) h.2 | exact Views.oneCell (Views.own 1 rfl) h.2 | exact Views.oneCell (Views.own 2 rfl) h.2 | exact Views.oneCell (Views.own 3 rfl) h.2 | exact Views.oneCell (Views.own 4 rfl) h.2 | exact Views.oneCell (Views.own 5 rfl) h.2 | exact Views.oneCell (by assumption) h.2) 0 rfl ?_)
        | (refine op_storeC (o := 0) h rfl rfl K.sz_S_interleafref18_Node (by first | rfl | assumption | exact Views.oneCell (Views.own 0 rfl) h.2 | exact Views.oneCell (Views.own 1 rfl) h.2 | exact Views.oneCell (Views.own 2 rfl) h.2 | exact Views.oneCell (Views.own 3 rfl) h.2 | exact Views.oneCell (Views.own 4 rfl) h.2 | exact Views.oneCell (Views.own 5 rfl) h.2 | exact Views.oneCell (by assumption) h.2) 1 rfl ?_)
        | (refine op_storeC (o := 0) h rfl rfl K.sz_S_interleafref18_Node (by first | rfl | assumption | exact Views.oneCell (Views.own 0 rfl) h.2 | exact Views.oneCell (Views.own 1 rfl) h.2 | exact Views.oneCell (Views.own 2 rfl) h.2 | exact Views.oneCell (Views.own 3 rfl) h.2 | exact Views.oneCell (Views.own 4 rfl) h.2 | exact Views.oneCell (Views.own 5 rfl) h.2 | exact Views.oneCell (by assumption) h.2) 2 rfl ?_)
        | (refine op_storeC (o := 0) h rfl rfl K.sz_S_interleafref18_Node (by first | rfl | assumption | exact Views.oneCell (Views.own 0 rfl) h.2 | exact Views.oneCell (Views.own 1 rfl) h.2 | exact Views.oneCell (Views.own 2 rfl) h.2 | exact Views.oneCell (Views.own 3 rfl) h.2 | exact Views.oneCell (Views.own 4 rfl) h.2 | exact Views.oneCell (Views.own 5 rfl) h.2 | exact Views.oneCell (by assumption) h.2) 3 rfl ?_)
        | (refine op_storeC (o := 0) h rfl rfl K.sz_S_interleafref18_Node (by first | rfl | assumption | exact Views.oneCell (Views.own 0 rfl) h.2 | exact Views.oneCell (Views.own 1 rfl) h.2 | exact Views.oneCell (Views.own 2 rfl) h.2 | exact Views.oneCell (Views.own 3 rfl) h.2 | exact Views.oneCell (Views.own 4 rfl) h.2 | exact Views.oneCell (Views.own 5 rfl) h.2 | exact Views.oneCell (by assumption) h.2) 4 rfl ?_)
        | (refine op_storeC (o := 0) h rfl rfl K.sz_S_interleafref18_Node (by first | rfl | assumption | exact Views.oneCell (Views.own 0 rfl) h.2 | exact Views.oneCell (Views.own 1 rfl) h.2 | exact Views.oneCell (Views.own 2 rfl) h.2 | exact Views.oneCell (Views.own 3 rfl) h.2 | exact Views.oneCell (Views.own 4 rfl) h.2 | exact Views.oneCell (Views.own 5 rfl) h.2 | exact Views.oneCell (by assumption) h.2) 5 rfl ?_)
        | (refine op_storeC (o := 0) h rfl rfl K.sz_S_interleafref18_Node (by first | rfl | assumption | exact Views.oneCell (Views.own 0 rfl) h.2 | exact Views.oneCell (Views.own 1 rfl) h.2 | exact Views.oneCell (Views.own 2 rfl) h.2 | exact Views.oneCell (Views.own 3 rfl) h.2 | exact Views.oneCell (Views.own 4 rfl) h.2 | exact Views.oneCell (Views.own 5 rfl) h.2 | exact Views.oneCell (by assumption) h.2) 6 rfl ?_)
    clear hD h a w; intro a w h
    (try simp only [List.set_cons_zero, List.set_cons_succ] at h)
    refine d_pay (Paid.nil) (fun hD => ?_)
    refine d_done (by kernel_rfl) ?_
    clear hD
    refine c_then ?_
    have e2 : x2.pv = .slice A ps.length cap ∧ x2.pars = ps := by rw [hx2]; exact ⟨rfl, rfl⟩
    have e3 : x3.pv = .slice Bq qs.length cap2 ∧ x3.pars = qs := by rw [hx3]; exact ⟨rfl, rfl⟩
    replace h : St _ _ _ _ _ (ParsI [x0, x1] :: OwnM 32 cellsA x2.pv x2.pars :: OwnM 32 cellsA x3.pv x3.pars :: OwnM 67 cellsN v68 ([x0, x1] ++ [x2, x3]) :: Blk b38 (.cells ⟨[v68, .slice none 0 0, .slice none 0 0, .slice none 0 0, .bool false]⟩ t_interleafref18_Book) :: Blk b8 (.cells (arr8 ky.val) t_api_Key) :: Blk b7 (.cells (arr8 kx.val) t_api_Key) :: Blk b11 (.cells (arr8 kq.val) t_api_Key) :: Blk b10 (.cells (arr8 kp.val) t_api_Key) :: F) := ⟨h.1, by rw [e2.1, e2.2, e3.1, e3.2]; exact (by have q := h.2; replace q := q.tail; replace q := (q.front 2 rfl).tail; replace q := (q.front 2 rfl).tail; replace q := q.front 5 rfl; replace q := q.front 5 rfl; replace q := q.front 8 rfl; replace q := q.front 8 rfl; replace q := q.front 5 rfl; replace q := q.front 5 rfl; replace q := q.front 7 rfl; replace q := q.front 7 rfl; replace q := q.front 8 rfl; exact q)⟩
    replace h := h.mem (fun q => (Sat.parsMore (x := x3) (Sat.parsMore (x := x2) q)))
    obtain ⟨xs, hxs⟩ : ∃ xs, xs = [x0, x1] ++ [x2, x3] := ⟨_, rfl⟩
    replace h : St _ _ _ _ _ (Blk b8 (.cells (arr8 ky.val) t_api_Key) :: Blk b7 (.cells (arr8 kx.val) t_api_Key) :: Blk b11 (.cells (arr8 kq.val) t_api_Key) :: Blk b10 (.cells (arr8 kp.val) t_api_Key) :: OwnM 67 cellsN v68 xs :: Blk b38 (.cells ⟨[v68, .slice none 0 0, .slice none 0 0, .slice none 0 0, .bool false]⟩ t_interleafref18_Book) :: ParsI xs :: F) := ⟨h.1, by rw [hxs]; exact (by have q := h.2; replace q := q.front 2 rfl; replace q := q.front 2 rfl; replace q := q.front 6 rfl; replace q := q.front 6 rfl; replace q := q.front 6 rfl; replace q := q.front 6 rfl; exact q)⟩
    have hns : nsOf xs = crS x y ap := by rw [hxs]; simp only [List.cons_append, List.nil_append, nsOf, List.map_cons, List.map_nil, hx0, hx1, hx2, hx3, hz1, hz2, crS, hkx, hky, hkp, hkq]
    have hs2 : Some2 (nsOf xs) := by rw [hns]; exact cr_some x y ap
    obtain ⟨hall, hp, hl⟩ := facts2 hs2
    have hb : baseF (al (nsOf xs)) kp kq = if ap = true then (BA.zero 32, false, 0) else (if y < x then ky else kx, true, 0) := by rw [hns, hkp, hkq, hkx, hky]; exact cr_base ht1 ap
    obtain ⟨bk, bo, hbk⟩ : ∃ bk bo, (if ap = true then ((BA.zero 32 : Key), false, (0 : Int)) else (if y < x then ky else kx, true, 0)) = (bk, bo, 0) := by
      cases ap
      · exact ⟨_, _, rfl⟩
      · exact ⟨_, _, rfl⟩
    refine c_seq (c_region ?_)
    refine wv h (r_move h rfl) rfl ?_
    clear h a w; intro a w h
    refine wv h (r_mkIface h rfl K.u_p_interleafref18_Book rfl) rfl ?_
    clear h a w; intro a w h
    first
        | (refine wv h (r_loadA8 h rfl K.u_api_Key rfl K.sz_api_Key 0 rfl (by first | rfl | assumption | (simp; done) | (simp; omega) | omega)) rfl ?_)
        | (refine wv h (r_loadA8 h rfl K.u_api_Key rfl K.sz_api_Key 1 rfl (by first | rfl | assumption | (simp; done) | (simp; omega) | omega)) rfl ?_)
        | (refine wv h (r_loadA8 h rfl K.u_api_Key rfl K.sz_api_Key 2 rfl (by first | rfl | assumption | (simp; done) | (simp; omega) | omega)) rfl ?_)
        | (refine wv h (r_loadA8 h rfl K.u_api_Key rfl K.sz_api_Key 3 rfl (by first | rfl | assumption | (simp; done) | (simp; omega) | omega)) rfl ?_)
        | (refine wv h (r_loadA8 h rfl K.u_api_Key rfl K.sz_api_Key 4 rfl (by first | rfl | assumption | (simp; done) | (simp; omega) | omega)) rfl ?_)
        | (refine wv h (r_loadA8 h rfl K.u_api_Key rfl K.sz_api_Key 5 rfl (by first | rfl | assumption | (simp; done) | (simp; omega) | omega)) rfl ?_)
        | (refine wv h (r_loadCA h rfl K.u_api_Key rfl K.sz_api_Key (by assumption) (by first | rfl | assumption | (simp; done) | (simp; omega) | omega)) rfl ?_)
    clear h a w; intro a w h
    first
        | (refine wv h (r_loadA8 h rfl K.u_api_Key rfl K.sz_api_Key 0 rfl (by first | rfl | assumption | (simp; done) | (simp; omega) | omega)) rfl ?_)
        | (refine wv h (r_loadA8 h rfl K.u_api_Key rfl K.sz_api_Key 1 rfl (by first | rfl | assumption | (simp; done) | (simp; omega) | omega)) rfl ?_)
        | (refine wv h (r_loadA8 h rfl K.u_api_Key rfl K.sz_api_Key 2 rfl (by first | rfl | assumption | (simp; done) | (simp; omega) | omega)) rfl ?_)
        | (refine wv h (r_loadA8 h rfl K.u_api_Key rfl K.sz_api_Key 3 rfl (by first | rfl | assumption | (simp; done) | (simp; omega) | omega)) rfl ?_)
        | (refine wv h (r_loadA8 h rfl K.u_api_Key rfl K.sz_api_Key 4 rfl (by first | rfl | assumption | (simp; done) | (simp; omega) | omega)) rfl ?_)
        | (refine wv h (r_loadA8 h rfl K.u_api_Key rfl K.sz_api_Key 5 rfl (by first | rfl | assumption | (simp; done) | (simp; omega) | omega)) rfl ?_)
        | (refine wv h (r_loadCA h rfl K.u_api_Key rfl K.sz_api_Key (by assumption) (by first | rfl | assumption | (simp; done) | (simp; omega) | omega)) rfl ?_)
    clear h a w; intro a w h
    refine wl rfl (op_call h rfl K.go_graph_Base (g_Base s _ b38 kp kq v68 xs _ (al (nsOf xs)) hall (BookV.mk 5 4 6 rfl rfl rfl) (by omega) hp h.2) rfl ?_)
    clear h a w; intro z76 a w hz76 h
    (try simp only [List.set_cons_zero, List.set_cons_succ] at h)
    rw [hb, hbk] at h
    refine wv h (r_move h rfl) rfl ?_
    clear h a w; intro a w h
    refine wv h (r_extractN h rfl rfl) rfl ?_
    clear h a w; intro a w h
    refine wv h (r_extractN h rfl rfl) rfl ?_
    clear h a w; intro a w h
    refine wv h (r_extractN h rfl rfl) rfl ?_
    clear h a w; intro a w h
    refine wl rfl (op_alloc h K.z_api_Key rfl ?_)
    clear h a w; intro b14 a w h
    rw [show (Value.agg (Array.replicate 32 (Value.int .u8 0))).cells = arr8 (List.replicate 32 0) from (arr8_zero 32).symm] at h
    first
        | (refine wl rfl (op_storeA8 h rfl rfl K.sz_api_Key (by first | rfl | assumption | (simp; done) | (simp; omega) | omega) 0 rfl (by first | rfl | (simp [arr8]; done) | (simp [arr8]; omega) | (simp [arr8]; assumption)) ?_))
        | (refine wl rfl (op_storeA8 h rfl rfl K.sz_api_Key (by first | rfl | assumption | (simp; done) | (simp; omega) | omega) 1 rfl (by first | rfl | (simp [arr8]; done) | (simp [arr8]; omega) | (simp [arr8]; assumption)) ?_))
        | (refine wl rfl (op_storeA8 h rfl rfl K.sz_api_Key (by first | rfl | assumption | (simp; done) | (simp; omega) | omega) 2 rfl (by first | rfl | (simp [arr8]; done) | (simp [arr8]; omega) | (simp [arr8]; assumption)) ?_))
        | (refine wl rfl (op_storeA8 h rfl rfl K.sz_api_Key (by first | rfl | assumption | (simp; done) | (simp; omega) | omega) 3 rfl (by first | rfl | (simp [arr8]; done) | (simp [arr8]; omega) | (simp [arr8]; assumption)) ?_))
        | (refine wl rfl (op_storeA8 h rfl rfl K.sz_api_Key (by first | rfl | assumption | (simp; done) | (simp; omega) | omega) 4 rfl (by first | rfl | (simp [arr8]; done) | (simp [arr8]; omega) | (simp [arr8]; assumption)) ?_))
        | (refine wl rfl (op_storeA8 h rfl rfl K.sz_api_Key (by first | rfl | assumption | (simp; done) | (simp; omega) | omega) 5 rfl (by first | rfl | (simp [arr8]; done) | (simp [arr8]; omega) | (simp [arr8]; assumption)) ?_))
    clear h a w; intro a w h
    (try simp only [List.set_cons_zero, List.set_cons_succ] at h)
    refine wv h (r_assign h rfl) rfl ?_
    clear h a w; intro a w h
    refine wv h (r_assign h rfl) rfl ?_
    clear h a w; intro a w h
    refine wnil (c_then ?_)
    refine c_seq (c_region ?_)
    first
        | (refine wv h (r_loadA8 h rfl K.u_api_Key rfl K.sz_api_Key 0 rfl (by first | rfl | assumption | (simp; done) | (simp; omega) | omega)) rfl ?_)
        | (refine wv h (r_loadA8 h rfl K.u_api_Key rfl K.sz_api_Key 1 rfl (by first | rfl | assumption | (simp; done) | (simp; omega) | omega)) rfl ?_)
        | (refine wv h (r_loadA8 h rfl K.u_api_Key rfl K.sz_api_Key 2 rfl (by first | rfl | assumption | (simp; done) | (simp; omega) | omega)) rfl ?_)
        | (refine wv h (r_loadA8 h rfl K.u_api_Key rfl K.sz_api_Key 3 rfl (by first | rfl | assumption | (simp; done) | (simp; omega) | omega)) rfl ?_)
        | (refine wv h (r_loadA8 h rfl K.u_api_Key rfl K.sz_api_Key 4 rfl (by first | rfl | assumption | (simp; done) | (simp; omega) | omega)) rfl ?_)
        | (refine wv h (r_loadA8 h rfl K.u_api_Key rfl K.sz_api_Key 5 rfl (by first | rfl | assumption | (simp; done) | (simp; omega) | omega)) rfl ?_)
        | (refine wv h (r_loadCA h rfl K.u_api_Key rfl K.sz_api_Key (by assumption) (by first | rfl | assumption | (simp; done) | (simp; omega) | omega)) rfl ?_)
    clear h a w; intro a w h
    refine wl rfl (op_alloc h K.z_api_Key rfl ?_)
    clear h a w; intro b17 a w h
    rw [show (Value.agg (Array.replicate 32 (Value.int .u8 0))).cells = arr8 (List.replicate 32 0) from (arr8_zero 32).symm] at h
    first
        | (refine wl rfl (op_storeA8 h rfl rfl K.sz_api_Key (by first | rfl | assumption | (simp; done) | (simp; omega) | omega) 0 rfl (by first | rfl | (simp [arr8]; done) | (simp [arr8]; omega) | (simp [arr8]; assumption)) ?_))
        | (refine wl rfl (op_storeA8 h rfl rfl K.sz_api_Key (by first | rfl | assumption | (simp; done) | (simp; omega) | omega) 1 rfl (by first | rfl | (simp [arr8]; done) | (simp [arr8]; omega) | (simp [arr8]; assumption)) ?_))
        | (refine wl rfl (op_storeA8 h rfl rfl K.sz_api_Key (by first | rfl | assumption | (simp; done) | (simp; omega) | omega) 2 rfl (by first | rfl | (simp [arr8]; done) | (simp [arr8]; omega) | (simp [arr8]; assumption)) ?_))
        | (refine wl rfl (op_storeA8 h rfl rfl K.sz_api_Key (by first | rfl | assumption | (simp; done) | (simp; omega) | omega) 3 rfl (by first | rfl | (simp [arr8]; done) | (simp [arr8]; omega) | (simp [arr8]; assumption)) ?_))
        | (refine wl rfl (op_storeA8 h rfl rfl K.sz_api_Key (by first | rfl | assumption | (simp; done) | (simp; omega) | omega) 4 rfl (by first | rfl | (simp [arr8]; done) | (simp [arr8]; omega) | (simp [arr8]; assumption)) ?_))
        | (refine wl rfl (op_storeA8 h rfl rfl K.sz_api_Key (by first | rfl | assumption | (simp; done) | (simp; omega) | omega) 5 rfl (by first | rfl | (simp [arr8]; done) | (simp [arr8]; omega) | (simp [arr8]; assumption)) ?_))
    clear h a w; intro a w h
    (try simp only [List.set_cons_zero, List.set_cons_succ] at h)
    refine wnil (c_then ?_)
    refine c_meet h (X := Key) (fun z => [(2, .bool ap), (14, bp b14), (15, .bool bo), (16, .int .i64 0), (17, bp b17)])
      (fun z => Blk b17 (.cells (arr8 z.val) t_api_Key) :: Blk b14 (.cells (arr8 bk.val) t_api_Key) :: F) (fun z => z = if y < x then ky else kx) ?_ ?_
    ·
     refine c_seq (c_region ?_)
     refine wv h (r_move h rfl) rfl ?_
     clear h a w; intro a w h
     refine wv h (r_move h rfl) rfl ?_
     clear h a w; intro a w h
     refine wv h (r_bin h rfl rfl (B.lss_u8)) rfl ?_
     clear h a w; intro a w h
     refine wnil (c_then ?_)
     refine c_condP (p := y < x) h rfl (by simp) (fun ht3 => ?_) (fun ht3 => ?_)
     ·
      as_aux_lemma =>
       refine c_region ?_
       first
              | (refine wv h (r_loadA8 h rfl K.u_api_Key rfl K.sz_api_Key 0 rfl (by first | rfl | assumption | (simp; done) | (simp; omega) | omega)) rfl ?_)
              | (refine wv h (r_loadA8 h rfl K.u_api_Key rfl K.sz_api_Key 1 rfl (by first | rfl | assumption | (simp; done) | (simp; omega) | omega)) rfl ?_)
              | (refine wv h (r_loadA8 h rfl K.u_api_Key rfl K.sz_api_Key 2 rfl (by first | rfl | assumption | (simp; done) | (simp; omega) | omega)) rfl ?_)
              | (refine wv h (r_loadA8 h rfl K.u_api_Key rfl K.sz_api_Key 3 rfl (by first | rfl | assumption | (simp; done) | (simp; omega) | omega)) rfl ?_)
              | (refine wv h (r_loadA8 h rfl K.u_api_Key rfl K.sz_api_Key 4 rfl (by first | rfl | assumption | (simp; done) | (simp; omega) | omega)) rfl ?_)
              | (refine wv h (r_loadA8 h rfl K.u_api_Key rfl K.sz_api_Key 5 rfl (by first | rfl | assumption | (simp; done) | (simp; omega) | omega)) rfl ?_)
              | (refine wv h (r_loadCA h rfl K.u_api_Key rfl K.sz_api_Key (by assumption) (by first | rfl | assumption | (simp; done) | (simp; omega) | omega)) rfl ?_)
       clear h a w; intro a w h
       first
              | (refine wl rfl (op_storeA8 h rfl rfl K.sz_api_Key (by first | rfl | assumption | (simp; done) | (simp; omega) | omega) 0 rfl (by first | rfl | (simp [arr8]; done) | (simp [arr8]; omega) | (simp [arr8]; assumption)) ?_))
              | (refine wl rfl (op_storeA8 h rfl rfl K.sz_api_Key (by first | rfl | assumption | (simp; done) | (simp; omega) | omega) 1 rfl (by first | rfl | (simp [arr8]; done) | (simp [arr8]; omega) | (simp [arr8]; assumption)) ?_))
              | (refine wl rfl (op_storeA8 h rfl rfl K.sz_api_Key (by first | rfl | assumption | (simp; done) | (simp; omega) | omega) 2 rfl (by first | rfl | (simp [arr8]; done) | (simp [arr8]; omega) | (simp [arr8]; assumption)) ?_))
              | (refine wl rfl (op_storeA8 h rfl rfl K.sz_api_Key (by first | rfl | assumption | (simp; done) | (simp; omega) | omega) 3 rfl (by first | rfl | (simp [arr8]; done) | (simp [arr8]; omega) | (simp [arr8]; assumption)) ?_))
              | (refine wl rfl (op_storeA8 h rfl rfl K.sz_api_Key (by first | rfl | assumption | (simp; done) | (simp; omega) | omega) 4 rfl (by first | rfl | (simp [arr8]; done) | (simp [arr8]; omega) | (simp [arr8]; assumption)) ?_))
              | (refine wl rfl (op_storeA8 h rfl rfl K.sz_api_Key (by first | rfl | assumption | (simp; done) | (simp; omega) | omega) 5 rfl (by first | rfl | (simp [arr8]; done) | (simp [arr8]; omega) | (simp [arr8]; assumption)) ?_))
       clear h a w; intro a w h
       (try simp only [List.set_cons_zero, List.set_cons_succ] at h)
       refine wnil ?_
       replace h := h.mem (fun q => ((((((((q.front 2 rfl).tail.front 2 rfl).tail.front 2 rfl).tail.front 2 rfl).tail.front 2 rfl).tail.front 2 rfl).tail.front 2 rfl).tail))
       exact ⟨ky, h.keep [2, 14, 15, 16, 17], by rw [if_pos ht3]⟩
     ·
      refine c_skip ?_
      replace h := h.mem (fun q => ((((((((q.front 2 rfl).tail.front 2 rfl).tail.front 2 rfl).tail.front 2 rfl).tail.front 2 rfl).tail.front 2 rfl).tail.front 2 rfl).tail))
      exact ⟨kx, h.keep [2, 14, 15, 16, 17], by rw [if_neg ht3]⟩
    ·
     clear h a w; intro z a w hz h
     refine c_seq ?_
     refine c_seq (c_region ?_)
     refine wv h (r_move h rfl) rfl ?_
     clear h a w; intro a w h
     refine wnil (c_then ?_)
     first
      | refine c_condD h rfl (fun ht4 => ?_) (fun ht4 => ?_)
      | refine c_condP h rfl (by first | (simp only [Bool.and_eq_true, Bool.or_eq_true, Bool.not_eq_true', decide_eq_true_eq, decide_eq_false_iff_not, ne_eq, Bool.not_eq_eq_eq_not, Bool.not_true, beq_iff_eq, bne_iff_ne]; exact Iff.rfl) | exact Iff.rfl) (fun ht4 => ?_) (fun ht4 => ?_)
     ·
      as_aux_lemma =>
       refine c_seq (c_region ?_)
       refine wv h (r_move h rfl) rfl ?_
       clear h a w; intro a w h
       refine wv h (r_bin h rfl rfl (B.eql_int)) rfl ?_
       clear h a w; intro a w h
       refine wv h (r_move h rfl) rfl ?_
       clear h a w; intro a w h
       refine wvG h (by first | exact .t rfl | exact .f rfl | exact .gt rfl | exact .gf rfl) (fun hg => by (try simp only [↓gval_on hg, ↓gval_and hg] at h); (have hg2 := hg; (try simp only [Bool.and_eq_true, Bool.or_eq_true, Bool.not_eq_true', decide_eq_true_eq, decide_eq_false_iff_not] at hg2)); first | exact r_move h rfl) rfl ?_
       clear h a w; intro a w h
       refine wvG h (by first | exact .t rfl | exact .f rfl | exact .gt rfl | exact .gf rfl) (fun hg => by (try simp only [↓gval_on hg, ↓gval_and hg] at h); (have hg2 := hg; (try simp only [Bool.and_eq_true, Bool.or_eq_true, Bool.not_eq_true', decide_eq_true_eq, decide_eq_false_iff_not] at hg2)); first | exact r_not h rfl) rfl ?_
       clear h a w; intro a w h
       first
              | (refine wv h (r_pickA h rfl rfl rfl) rfl ?_)
              | (refine wv h (r_pickO h rfl rfl rfl) rfl ?_)
              | (refine wv h (r_pick_true h rfl rfl) rfl ?_)
              | (refine wv h (r_pick_false h rfl rfl) rfl ?_)
              | (refine wv h (r_pick h rfl rfl rfl) rfl ?_)
       clear h a w; intro a w h
       refine wv h (r_move h rfl) rfl ?_
       clear h a w; intro a w h
       refine wvG h (by first | exact .t rfl | exact .f rfl | exact .gt rfl | exact .gf rfl) (fun hg => by (try simp only [↓gval_on hg, ↓gval_and hg] at h); (have hg2 := hg; (try simp only [Bool.and_eq_true, Bool.or_eq_true, Bool.not_eq_true', decide_eq_true_eq, decide_eq_false_iff_not] at hg2)); first | exact r_loadA8 h rfl K.u_api_Key rfl K.sz_api_Key 0 rfl (by first | rfl | assumption | (simp; done) | (simp; omega) | omega) | exact r_loadA8 h rfl K.u_api_Key rfl K.sz_api_Key 1 rfl (by first | rfl | assumption | (simp; done) | (simp; omega) | omega) | exact r_loadA8 h rfl K.u_api_Key rfl K.sz_api_Key 2 rfl (by first | rfl | assumption | (simp; done) | (simp; omega) | omega) | exact r_loadA8 h rfl K.u_api_Key rfl K.sz_api_Key 3 rfl (by first | rfl | assumption | (simp; done) | (simp; omega) | omega) | exact r_loadA8 h rfl K.u_api_Key rfl K.sz_api_Key 4 rfl (by first | rfl | assumption | (simp; done) | (simp; omega) | omega) | exact r_loadA8 h rfl K.u_api_Key rfl K.sz_api_Key 5 rfl (by first | rfl | assumption | (simp; done) | (simp; omega) | omega) | exact r_loadCA h rfl K.u_api_Key rfl K.sz_api_Key (by assumption) (by first | rfl | assumption | (simp; done) | (simp; omega) | omega)) rfl ?_
       clear h a w; intro a w h
       refine wvG h (by first | exact .t rfl | exact .f rfl | exact .gt rfl | exact .gf rfl) (fun hg => by (try simp only [↓gval_on hg, ↓gval_and hg] at h); (have hg2 := hg; (try simp only [Bool.and_eq_true, Bool.or_eq_true, Bool.not_eq_true', decide_eq_true_eq, decide_eq_false_iff_not] at hg2)); first | exact r_buildA h K.u_api_Key K.z_api_Key K.sz_uint8 rfl rfl) rfl ?_
       clear h a w; intro a w h
       rw [show (Value.agg (Array.replicate 32 (Value.int .u8 0))).cells = arr8 (List.replicate 32 0) from (arr8_zero 32).symm] at h
       refine wvG h (by first | exact .t rfl | exact .f rfl | exact .gt rfl | exact .gf rfl) (fun hg => by (try simp only [↓gval_on hg, ↓gval_and hg] at h); (have hg2 := hg; (try simp only [Bool.and_eq_true, Bool.or_eq_true, Bool.not_eq_true', decide_eq_true_eq, decide_eq_false_iff_not] at hg2)); first | exact r_arreq h rfl rfl K.u_api_Key K.u_uint8 K.sz_uint8 (by kernel_rfl) (by first | rfl | assumption | (simp; done) | (simp; omega) | omega) (by first | rfl | assumption | (simp; done) | (simp; omega) | omega)) rfl ?_
       clear h a w; intro a w h
       first
              | (refine wv h (r_pickA h rfl rfl rfl) rfl ?_)
              | (refine wv h (r_pickO h rfl rfl rfl) rfl ?_)
              | (refine wv h (r_pick_true h rfl rfl) rfl ?_)
              | (refine wv h (r_pick_false h rfl rfl) rfl ?_)
              | (refine wv h (r_pick h rfl rfl rfl) rfl ?_)
       clear h a w; intro a w h
       refine wv h (r_assign h rfl) rfl ?_
       clear h a w; intro a w h
       refine wnil (c_then ?_)
       refine c_ret ?_
       rw [if_pos ht4] at hbk
       obtain ⟨e3, e4⟩ := Prod.mk.inj hbk
       obtain ⟨e5, _⟩ := Prod.mk.inj e4
       exact ret1 h rfl rfl ⟨(), by simp [← e3, ← e5]; rfl, h.2.drop 2, trivial⟩
     ·
      refine c_skip ?_
      refine c_then ?_
      refine c_seq (c_region ?_)
      refine wv h (r_move h rfl) rfl ?_
      clear h a w; intro a w h
      refine wv h (r_bin h rfl rfl (B.eql_int)) rfl ?_
      clear h a w; intro a w h
      refine wv h (r_move h rfl) rfl ?_
      clear h a w; intro a w h
      refine wvG h (by first | exact .t rfl | exact .f rfl | exact .gt rfl | exact .gf rfl) (fun hg => by (try simp only [↓gval_on hg, ↓gval_and hg] at h); (have hg2 := hg; (try simp only [Bool.and_eq_true, Bool.or_eq_true, Bool.not_eq_true', decide_eq_true_eq, decide_eq_false_iff_not] at hg2)); first | exact r_move h rfl) rfl ?_
      clear h a w; intro a w h
      first
            | (refine wv h (r_pickA h rfl rfl rfl) rfl ?_)
            | (refine wv h (r_pickO h rfl rfl rfl) rfl ?_)
            | (refine wv h (r_pick_true h rfl rfl) rfl ?_)
            | (refine wv h (r_pick_false h rfl rfl) rfl ?_)
            | (refine wv h (r_pick h rfl rfl rfl) rfl ?_)
      clear h a w; intro a w h
      refine wv h (r_move h rfl) rfl ?_
      clear h a w; intro a w h
      refine wvG h (by first | exact .t rfl | exact .f rfl | exact .gt rfl | exact .gf rfl) (fun hg => by (try simp only [↓gval_on hg, ↓gval_and hg] at h); (have hg2 := hg; (try simp only [Bool.and_eq_true, Bool.or_eq_true, Bool.not_eq_true', decide_eq_true_eq, decide_eq_false_iff_not] at hg2)); first | exact r_loadA8 h rfl K.u_api_Key rfl K.sz_api_Key 0 rfl (by first | rfl | assumption | (simp; done) | (simp; omega) | omega) | exact r_loadA8 h rfl K.u_api_Key rfl K.sz_api_Key 1 rfl (by first | rfl | assumption | (simp; done) | (simp; omega) | omega) | exact r_loadA8 h rfl K.u_api_Key rfl K.sz_api_Key 2 rfl (by first | rfl | assumption | (simp; done) | (simp; omega) | omega) | exact r_loadA8 h rfl K.u_api_Key rfl K.sz_api_Key 3 rfl (by first | rfl | assumption | (simp; done) | (simp; omega) | omega) | exact r_loadA8 h rfl K.u_api_Key rfl K.sz_api_Key 4 rfl (by first | rfl | assumption | (simp; done) | (simp; omega) | omega) | exact r_loadA8 h rfl K.u_api_Key rfl K.sz_api_Key 5 rfl (by first | rfl | assumption | (simp; done) | (simp; omega) | omega) | exact r_loadCA h rfl K.u_api_Key rfl K.sz_api_Key (by assumption) (by first | rfl | assumption | (simp; done) | (simp; omega) | omega)) rfl ?_
      clear h a w; intro a w h
      refine wvG h (by first | exact .t rfl | exact .f rfl | exact .gt rfl | exact .gf rfl) (fun hg => by (try simp only [↓gval_on hg, ↓gval_and hg] at h); (have hg2 := hg; (try simp only [Bool.and_eq_true, Bool.or_eq_true, Bool.not_eq_true', decide_eq_true_eq, decide_eq_false_iff_not] at hg2)); first | exact r_loadA8 h rfl K.u_api_Key rfl K.sz_api_Key 0 rfl (by first | rfl | assumption | (simp; done) | (simp; omega) | omega) | exact r_loadA8 h rfl K.u_api_Key rfl K.sz_api_Key 1 rfl (by first | rfl | assumption | (simp; done) | (simp; omega) | omega) | exact r_loadA8 h rfl K.u_api_Key rfl K.sz_api_Key 2 rfl (by first | rfl | assumption | (simp; done) | (simp; omega) | omega) | exact r_loadA8 h rfl K.u_api_Key rfl K.sz_api_Key 3 rfl (by first | rfl | assumption | (simp; done) | (simp; omega) | omega) | exact r_loadA8 h rfl K.u_api_Key rfl K.sz_api_Key 4 rfl (by first | rfl | assumption | (simp; done) | (simp; omega) | omega) | exact r_loadA8 h rfl K.u_api_Key rfl K.sz_api_Key 5 rfl (by first | rfl | assumption | (simp; done) | (simp; omega) | omega) | exact r_loadCA h rfl K.u_api_Key rfl K.sz_api_Key (by assumption) (by first | rfl | assumption | (simp; done) | (simp; omega) | omega)) rfl ?_
      clear h a w; intro a w h
      refine wvG h (by first | exact .t rfl | exact .f rfl | exact .gt rfl | exact .gf rfl) (fun hg => by (try simp only [↓gval_on hg, ↓gval_and hg] at h); (have hg2 := hg; (try simp only [Bool.and_eq_true, Bool.or_eq_true, Bool.not_eq_true', decide_eq_true_eq, decide_eq_false_iff_not] at hg2)); first | exact r_arreq h rfl rfl K.u_api_Key K.u_uint8 K.sz_uint8 (by kernel_rfl) (by first | rfl | assumption | (simp; done) | (simp; omega) | omega) (by first | rfl | assumption | (simp; done) | (simp; omega) | omega)) rfl ?_
      clear h a w; intro a w h
      first
            | (refine wv h (r_pickA h rfl rfl rfl) rfl ?_)
            | (refine wv h (r_pickO h rfl rfl rfl) rfl ?_)
            | (refine wv h (r_pick_true h rfl rfl) rfl ?_)
            | (refine wv h (r_pick_false h rfl rfl) rfl ?_)
            | (refine wv h (r_pick h rfl rfl rfl) rfl ?_)
      clear h a w; intro a w h
      refine wv h (r_assign h rfl) rfl ?_
      clear h a w; intro a w h
      refine wnil (c_then ?_)
      refine c_ret ?_
      rw [if_neg (by simp [ht4]), ← hz] at hbk
      obtain ⟨e3, e4⟩ := Prod.mk.inj hbk
      obtain ⟨e5, _⟩ := Prod.mk.inj e4
      exact ret1 h rfl rfl ⟨(), by simp [← e3, ← e5], h.2.drop 2, trivial⟩
end Go.Proofs.K
