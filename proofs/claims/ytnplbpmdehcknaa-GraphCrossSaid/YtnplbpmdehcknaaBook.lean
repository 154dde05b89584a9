/- The contracts of a book of commits (the reference's): the place of a key, its commit. -/
import Derived.Test.YtnplbpmdehcknaaTab
import Derived.Test.YtnplbpmdehcknaaGraphPure
import Derived.Test.YtnplbpmdehcknaaKeySet
set_option linter.unusedVariables false
set_option linter.unusedSimpArgs false
set_option maxRecDepth 10000
set_option maxHeartbeats 2000000
namespace Go.Proofs.K
open Go.Sl
attribute [local irreducible] Go.Sl.Own Go.Sl.Blk Go.Sl.Sep Go.Sl.Ex Go.Sl.Fact
abbrev bp (b : Nat) : Value := .pointer (some ⟨b, 0, none⟩)

theorem book_Node (s w : World) (b : Nat) (nv : Value) (xs : List NodeV) (k : Key) (F : List HItem) (hB : BookV F b nv xs) (hl : xs.length ≤ 4000000) (hs : Sat s w F) :
    Calls P n_ref18_Book_Node #[bp b, keyV k] w (Ret s (fun _ : Unit => .int .i64 (nodeIx xs k 0)) (fun _ => F) (fun _ => True)) := by
  refine enter K.fn_ref18_Book_Node rfl K.nt_ref18_Book_Node rfl hs ?_
  clear hs w; intro a w h
  unfold keyV at h
  refine c_seq (c_region ?_)
  refine wl rfl (op_box h rfl rfl ?_)
  clear h a w; intro b3 a w h
  try simp only [Value.cells] at h
  refine wv h (r_assign h rfl) rfl ?_
  clear h a w; intro a w h
  refine wnil (c_then ?_)
  refine c_seq ?_
  refine c_seq (c_region ?_)
  refine wv h (r_assign h rfl) rfl ?_
  clear h a w; intro a w h
  refine wnil (c_then ?_)
  refine c_block ?_
  have hc := hB.1.cons (Blk b3 (.cells ⟨cellsA k⟩ t_api_Key))
  have hn := hB.2.1.cons (Blk b3 (.cells ⟨cellsA k⟩ t_api_Key))
  refine c_loop (X := Nat) (fun i => [(0, bp b), (3, .pointer (some ⟨b3, 0, none⟩)), (5, .int .i64 (i : Int))]) (fun _ => Blk b3 (.cells ⟨cellsA k⟩ t_api_Key) :: F) (fun i => i ≤ xs.length ∧ nodeIx xs k 0 = nodeIx (xs.drop i) k i) (fun i => xs.length - i) 0 (h.keep [0, 3, 5]) ⟨Nat.zero_le _, rfl⟩ ?_
  clear h a w; intro x a w hx h
  obtain ⟨h1, h2⟩ := hx
  as_aux_lemma =>
   refine c_seq ?_
   refine c_seq (c_region ?_)
   refine wv h (r_move h rfl) rfl ?_
   clear h a w; intro a w h
   refine wv h (r_move h rfl) rfl ?_
   clear h a w; intro a w h
   refine wv h (r_nilCheck h rfl) rfl ?_
   clear h a w; intro a w h
   refine wv h (r_fieldAddr0 h rfl K.u_interleafref18_Book rfl K.sz_S_interleafref18_Node rfl rfl) rfl ?_
   clear h a w; intro a w h
   first
      | (refine wv h (r_ldN h rfl K.u_S_interleafref18_Node rfl 0 rfl rfl) rfl ?_)
      | (refine wv h (r_ldN h rfl K.u_S_interleafref18_Node rfl 1 rfl rfl) rfl ?_)
      | (refine wv h (r_ldN h rfl K.u_S_interleafref18_Node rfl 2 rfl rfl) rfl ?_)
      | (refine wv h (r_ldN h rfl K.u_S_interleafref18_Node rfl 3 rfl rfl) rfl ?_)
      | (refine wv h (r_ldN h rfl K.u_S_interleafref18_Node rfl 4 rfl rfl) rfl ?_)
      | (refine wv h (r_ldN h rfl K.u_S_interleafref18_Node rfl 5 rfl rfl) rfl ?_)
      | (refine wv h (r_ldN h rfl K.u_S_interleafref18_Node rfl 6 rfl rfl) rfl ?_)
      | (refine wv h (r_ldC (o := 0) h rfl K.u_S_interleafref18_Node rfl 0 rfl) rfl ?_)
      | (refine wv h (r_ldC (o := 0) h rfl K.u_S_interleafref18_Node rfl 1 rfl) rfl ?_)
      | (refine wv h (r_ldC (o := 0) h rfl K.u_S_interleafref18_Node rfl 2 rfl) rfl ?_)
      | (refine wv h (r_ldC (o := 0) h rfl K.u_S_interleafref18_Node rfl 3 rfl) rfl ?_)
      | (refine wv h (r_ldC (o := 0) h rfl K.u_S_interleafref18_Node rfl 4 rfl) rfl ?_)
      | (refine wv h (r_ldC (o := 0) h rfl K.u_S_interleafref18_Node rfl 5 rfl) rfl ?_)
      | (refine wv h (r_ldC (o := 0) h rfl K.u_S_interleafref18_Node rfl 6 rfl) rfl ?_)
      | (refine wv h (r_load h rfl K.u_S_interleafref18_Node rfl 0 rfl rfl) rfl ?_)
      | (refine wv h (r_load h rfl K.u_S_interleafref18_Node rfl 1 rfl rfl) rfl ?_)
      | (refine wv h (r_load h rfl K.u_S_interleafref18_Node rfl 2 rfl rfl) rfl ?_)
      | (refine wv h (r_load h rfl K.u_S_interleafref18_Node rfl 3 rfl rfl) rfl ?_)
      | (refine wv h (r_load h rfl K.u_S_interleafref18_Node rfl 4 rfl rfl) rfl ?_)
      | (refine wv h (r_load h rfl K.u_S_interleafref18_Node rfl 5 rfl rfl) rfl ?_)
      | (refine wv h (r_load1 h rfl K.u_S_interleafref18_Node rfl (by assumption)) rfl ?_)
   clear h a w; intro a w h
   refine wv h (r_lenV h rfl K.u_S_interleafref18_Node (by first | exact Views.own 0 rfl | exact Views.own 1 rfl | exact Views.own 2 rfl | exact Views.own 3 rfl | exact Views.own 4 rfl | exact Views.own 5 rfl | assumption | exact Views.of_drop 1 (by assumption) | exact Views.of_drop 2 (by assumption) | exact Views.of_drop 3 (by assumption) | exact Views.of_drop 4 (by assumption) | exact Views.of_drop 5 (by assumption) | exact Views.of_drop 6 (by assumption) | exact Views.of_drop 7 (by assumption) | exact Views.of_drop 8 (by assumption) | exact Views.of_drop 9 (by assumption) | exact Views.of_drop 10 (by assumption) | exact Views.of_drop 11 (by assumption) | exact Views.of_drop 12 (by assumption))) rfl ?_
   clear h a w; intro a w h
   refine wv h (r_bin h rfl rfl (B.lss_int)) rfl ?_
   clear h a w; intro a w h
   refine wnil (c_then ?_)
   first
    | refine c_condD h rfl (fun ht1 => ?_) (fun ht1 => ?_)
    | refine c_condP h rfl (by first | (simp only [Bool.and_eq_true, Bool.or_eq_true, Bool.not_eq_true', decide_eq_true_eq, decide_eq_false_iff_not, ne_eq, Bool.not_eq_eq_eq_not, Bool.not_true, beq_iff_eq, bne_iff_ne]; exact Iff.rfl) | exact Iff.rfl) (fun ht1 => ?_) (fun ht1 => ?_)
   ·
    have hlt : x < xs.length := by omega
    obtain ⟨y, hy⟩ : ∃ y, xs[x]? = some y := ⟨_, List.getElem?_eq_getElem hlt⟩
    rw [nodeIx_step xs k hy] at h2
    refine c_skip ?_
    refine c_then ?_
    refine c_seq ?_
    refine c_block ?_
    refine c_seq (c_draw K.mixed (by kernel_rfl) h ?_)
    clear h a w; intro a hE
    refine qv hE (fun w hw => r_move ⟨hE, hw⟩ rfl) rfl ?_
    clear hE a; intro a hE
    refine qv hE (fun w hw => r_nilCheck ⟨hE, hw⟩ rfl) rfl ?_
    clear hE a; intro a hE
    first
        | (refine qv hE (fun w hw => r_fieldAddr0 ⟨hE, hw⟩ rfl K.u_interleafref18_Book rfl K.sz_S_interleafref18_Node rfl rfl) rfl ?_)
        | (refine qv hE (fun w hw => op_fieldC ⟨hE, hw⟩ 0 rfl K.u_interleafref18_Book rfl K.sz_S_interleafref18_Node rfl rfl (by assumption) rfl) rfl ?_)
    clear hE a; intro a hE
    first
        | (refine qv hE (fun w hw => r_ldN ⟨hE, hw⟩ rfl K.u_S_interleafref18_Node rfl 0 rfl rfl) rfl ?_)
        | (refine qv hE (fun w hw => r_ldN ⟨hE, hw⟩ rfl K.u_S_interleafref18_Node rfl 1 rfl rfl) rfl ?_)
        | (refine qv hE (fun w hw => r_ldN ⟨hE, hw⟩ rfl K.u_S_interleafref18_Node rfl 2 rfl rfl) rfl ?_)
        | (refine qv hE (fun w hw => r_ldN ⟨hE, hw⟩ rfl K.u_S_interleafref18_Node rfl 3 rfl rfl) rfl ?_)
        | (refine qv hE (fun w hw => r_ldN ⟨hE, hw⟩ rfl K.u_S_interleafref18_Node rfl 4 rfl rfl) rfl ?_)
        | (refine qv hE (fun w hw => r_ldN ⟨hE, hw⟩ rfl K.u_S_interleafref18_Node rfl 5 rfl rfl) rfl ?_)
        | (refine qv hE (fun w hw => r_ldN ⟨hE, hw⟩ rfl K.u_S_interleafref18_Node rfl 6 rfl rfl) rfl ?_)
        | (refine qv hE (fun w hw => r_ldC (o := 0) ⟨hE, hw⟩ rfl K.u_S_interleafref18_Node rfl 0 rfl) rfl ?_)
        | (refine qv hE (fun w hw => r_ldC (o := 0) ⟨hE, hw⟩ rfl K.u_S_interleafref18_Node rfl 1 rfl) rfl ?_)
        | (refine qv hE (fun w hw => r_ldC (o := 0) ⟨hE, hw⟩ rfl K.u_S_interleafref18_Node rfl 2 rfl) rfl ?_)
        | (refine qv hE (fun w hw => r_ldC (o := 0) ⟨hE, hw⟩ rfl K.u_S_interleafref18_Node rfl 3 rfl) rfl ?_)
        | (refine qv hE (fun w hw => r_ldC (o := 0) ⟨hE, hw⟩ rfl K.u_S_interleafref18_Node rfl 4 rfl) rfl ?_)
        | (refine qv hE (fun w hw => r_ldC (o := 0) ⟨hE, hw⟩ rfl K.u_S_interleafref18_Node rfl 5 rfl) rfl ?_)
        | (refine qv hE (fun w hw => r_ldC (o := 0) ⟨hE, hw⟩ rfl K.u_S_interleafref18_Node rfl 6 rfl) rfl ?_)
        | (refine qv hE (fun w hw => r_load ⟨hE, hw⟩ rfl K.u_S_interleafref18_Node rfl 0 rfl rfl) rfl ?_)
        | (refine qv hE (fun w hw => r_load ⟨hE, hw⟩ rfl K.u_S_interleafref18_Node rfl 1 rfl rfl) rfl ?_)
        | (refine qv hE (fun w hw => r_load ⟨hE, hw⟩ rfl K.u_S_interleafref18_Node rfl 2 rfl rfl) rfl ?_)
        | (refine qv hE (fun w hw => r_load ⟨hE, hw⟩ rfl K.u_S_interleafref18_Node rfl 3 rfl rfl) rfl ?_)
        | (refine qv hE (fun w hw => r_load ⟨hE, hw⟩ rfl K.u_S_interleafref18_Node rfl 4 rfl rfl) rfl ?_)
        | (refine qv hE (fun w hw => r_load ⟨hE, hw⟩ rfl K.u_S_interleafref18_Node rfl 5 rfl rfl) rfl ?_)
        | (refine qv hE (fun w hw => r_load1 ⟨hE, hw⟩ rfl K.u_S_interleafref18_Node rfl (by assumption)) rfl ?_)
    clear hE a; intro a hE
    refine qv hE (fun w hw => r_move ⟨hE, hw⟩ rfl) rfl ?_
    clear hE a; intro a hE
    refine qv hE (fun w hw => r_elP ⟨hE, hw⟩ rfl rfl K.u_S_interleafref18_Node K.sz_interleafref18_Node (by first | exact Views.own 0 rfl | exact Views.own 1 rfl | exact Views.own 2 rfl | exact Views.own 3 rfl | exact Views.own 4 rfl | exact Views.own 5 rfl | assumption | exact Views.of_drop 1 (by assumption) | exact Views.of_drop 2 (by assumption) | exact Views.of_drop 3 (by assumption) | exact Views.of_drop 4 (by assumption) | exact Views.of_drop 5 (by assumption) | exact Views.of_drop 6 (by assumption) | exact Views.of_drop 7 (by assumption) | exact Views.of_drop 8 (by assumption) | exact Views.of_drop 9 (by assumption) | exact Views.of_drop 10 (by assumption) | exact Views.of_drop 11 (by assumption) | exact Views.of_drop 12 (by assumption)) (by first | omega | (simp; done)) (by first | omega | (simp only [List.length_cons, List.length_nil]; omega) | (simp; done) | (simp; omega))) rfl ?_
    clear hE a; intro a hE
    refine qv hE (fun w hw => r_elF ⟨hE, hw⟩ 0 rfl K.u_interleafref18_Node rfl K.sz_api_Key rfl rfl (by first | exact Views.own 0 rfl | exact Views.own 1 rfl | exact Views.own 2 rfl | exact Views.own 3 rfl | exact Views.own 4 rfl | exact Views.own 5 rfl | assumption | exact Views.of_drop 1 (by assumption) | exact Views.of_drop 2 (by assumption) | exact Views.of_drop 3 (by assumption) | exact Views.of_drop 4 (by assumption) | exact Views.of_drop 5 (by assumption) | exact Views.of_drop 6 (by assumption) | exact Views.of_drop 7 (by assumption) | exact Views.of_drop 8 (by assumption) | exact Views.of_drop 9 (by assumption) | exact Views.of_drop 10 (by assumption) | exact Views.of_drop 11 (by assumption) | exact Views.of_drop 12 (by assumption)) (by first | omega | (simp only [List.length_cons, List.length_nil]; omega) | (simp; done) | (simp; omega))) rfl ?_
    clear hE a; intro a hE
    refine qv hE (fun w hw => r_elMa (cells := cellsN) ⟨hE, hw⟩ rfl K.u_api_Key rfl K.sz_api_Key hn hy (cellsN_key y) (by rw [bs_length, y.key.len]) (by decide) rfl) rfl ?_
    clear hE a; intro a hE
    first
        | (refine qv hE (fun w hw => r_loadA8 ⟨hE, hw⟩ rfl K.u_api_Key rfl K.sz_api_Key 0 rfl (by first | rfl | assumption | (simp; done) | (simp; omega) | omega)) rfl ?_)
        | (refine qv hE (fun w hw => r_loadA8 ⟨hE, hw⟩ rfl K.u_api_Key rfl K.sz_api_Key 1 rfl (by first | rfl | assumption | (simp; done) | (simp; omega) | omega)) rfl ?_)
        | (refine qv hE (fun w hw => r_loadA8 ⟨hE, hw⟩ rfl K.u_api_Key rfl K.sz_api_Key 2 rfl (by first | rfl | assumption | (simp; done) | (simp; omega) | omega)) rfl ?_)
        | (refine qv hE (fun w hw => r_loadA8 ⟨hE, hw⟩ rfl K.u_api_Key rfl K.sz_api_Key 3 rfl (by first | rfl | assumption | (simp; done) | (simp; omega) | omega)) rfl ?_)
        | (refine qv hE (fun w hw => r_loadA8 ⟨hE, hw⟩ rfl K.u_api_Key rfl K.sz_api_Key 4 rfl (by first | rfl | assumption | (simp; done) | (simp; omega) | omega)) rfl ?_)
        | (refine qv hE (fun w hw => r_loadA8 ⟨hE, hw⟩ rfl K.u_api_Key rfl K.sz_api_Key 5 rfl (by first | rfl | assumption | (simp; done) | (simp; omega) | omega)) rfl ?_)
        | (refine qv hE (fun w hw => r_loadCA ⟨hE, hw⟩ rfl K.u_api_Key rfl K.sz_api_Key (by assumption) (by first | rfl | assumption | (simp; done) | (simp; omega) | omega)) rfl ?_)
    clear hE a; intro a hE
    refine qv hE (fun w hw => r_arreq ⟨hE, hw⟩ rfl rfl K.u_api_Key K.u_uint8 K.sz_uint8 (by kernel_rfl) (by first | rfl | assumption | (simp; done) | (simp; omega) | omega) (by first | rfl | assumption | (simp; done) | (simp; omega) | omega)) rfl ?_
    clear hE a; intro a hE
    refine qnil hE ?_
    clear hE a; intro a w h
    refine c_then ?_
    refine c_cond h rfl (fun ht2 => ?_) (fun ht2 => ?_)
    ·
     as_aux_lemma =>
      refine c_seq (c_region ?_)
      refine wv h (r_move h rfl) rfl ?_
      clear h a w; intro a w h
      refine wv h (r_assign h rfl) rfl ?_
      clear h a w; intro a w h
      refine wnil (c_then ?_)
      refine c_ret ?_
      have e : y.key = k := BA.ext' (by simpa using ht2)
      rw [if_pos e] at h2
      exact ret1 h rfl rfl ⟨(), by rw [h2], h.2.drop 1, trivial⟩
    ·
     refine c_skip ?_
     refine b_normal ?_
     refine c_then ?_
     refine c_region ?_
     refine wv h (r_move h rfl) rfl ?_
     clear h a w; intro a w h
     refine wv h (r_bin h rfl rfl (B.add_i64 (by omega) (by omega))) rfl ?_
     clear h a w; intro a w h
     refine wv h (r_assign h rfl) rfl ?_
     clear h a w; intro a w h
     refine wnil ?_
     have e : y.key ≠ k := fun e => by rw [e] at ht2; simp at ht2
     rw [if_neg e] at h2
     exact ⟨x + 1, h.keep [0, 3, 5], ⟨by omega, h2⟩, by omega⟩
   ·
    refine c_exit ?_
    refine e_then ?_
    refine e_then ?_
    refine e_here ?_
    refine c_then ?_
    refine c_seq (c_region ?_)
    refine wv h (r_assign h rfl) rfl ?_
    clear h a w; intro a w h
    refine wnil (c_then ?_)
    refine c_ret ?_
    have h3 : xs.drop x = [] := List.drop_eq_nil_of_le (by omega)
    rw [h3] at h2
    exact ret1 h rfl rfl ⟨(), by rw [h2]; rfl, h.2.drop 1, trivial⟩

theorem book_Commit (s w : World) (b : Nat) (nv : Value) (xs : List NodeV) (k : Key) (F : List HItem) (hB : BookV F b nv xs) (hl : xs.length ≤ 4000000) (hs : Sat s w F) :
    Calls P n_ref18_Book_Commit #[bp b, keyV k] w (Ret s (fun _ : Unit => comV xs k) (fun _ => F) (fun _ => True)) := by
  refine enter K.fn_ref18_Book_Commit rfl K.nt_ref18_Book_Commit rfl hs ?_
  clear hs w; intro a w h
  unfold keyV at h
  refine c_seq (c_region ?_)
  refine wl rfl (op_box h rfl rfl ?_)
  clear h a w; intro b3 a w h
  try simp only [Value.cells] at h
  refine wl rfl (op_alloc h K.z_api_Commit rfl ?_)
  clear h a w; intro b4 a w h
  have l1 := comC_len (BA.zero 32) (.slice none 0 0) (sv [])
  have o1 := comC_one (ch := BA.zero 32) (pv := .slice none 0 0) (nv := sv []) rfl rfl
  change St 21 s a w _ (Blk b4 (.cells ⟨comC (BA.zero 32) (.slice none 0 0) (sv [])⟩ t_api_Commit) :: _) at h
  refine wv h (r_assign h rfl) rfl ?_
  clear h a w; intro a w h
  refine wnil (c_then ?_)
  refine c_seq (c_region ?_)
  refine wv h (r_move h rfl) rfl ?_
  clear h a w; intro a w h
  first
    | (refine wv h (r_loadA8 h rfl K.u_api_Key rfl K.sz_api_Key 0 rfl (by first | rfl | assumption | (simp; done) | (simp; omega) | omega)) rfl ?_)
    | (refine wv h (r_loadA8 h rfl K.u_api_Key rfl K.sz_api_Key 1 rfl (by first | rfl | assumption | (simp; done) | (simp; omega) | omega)) rfl ?_)
    | (refine wv h (r_loadA8 h rfl K.u_api_Key rfl K.sz_api_Key 2 rfl (by first | rfl | assumption | (simp; done) | (simp; omega) | omega)) rfl ?_)
    | (refine wv h (r_loadA8 h rfl K.u_api_Key rfl K.sz_api_Key 3 rfl (by first | rfl | assumption | (simp; done) | (simp; omega) | omega)) rfl ?_)
    | (refine wv h (r_loadA8 h rfl K.u_api_Key rfl K.sz_api_Key 4 rfl (by first | rfl | assumption | (simp; done) | (simp; omega) | omega)) rfl ?_)
    | (refine wv h (r_loadA8 h rfl K.u_api_Key rfl K.sz_api_Key 5 rfl (by first | rfl | assumption | (simp; done) | (simp; omega) | omega)) rfl ?_)
    | (refine wv h (r_loadCA h rfl K.u_api_Key rfl K.sz_api_Key (by assumption) (by first | rfl | assumption | (simp; done) | (simp; omega) | omega)) rfl ?_)
  clear h a w; intro a w h
  refine wl rfl (op_call h rfl K.go_ref18_Book_Node (book_Node s _ b nv xs k _ ((hB.cons _).cons _) hl h.2) rfl ?_)
  clear h a w; intro x a w hx h
  (try simp only [List.set_cons_zero, List.set_cons_succ] at h)
  refine wv h (r_assign h rfl) rfl ?_
  clear h a w; intro a w h
  refine wnil (c_then ?_)
  refine c_seq ?_
  refine c_seq (c_region ?_)
  refine wv h (r_move h rfl) rfl ?_
  clear h a w; intro a w h
  refine wv h (r_bin h rfl rfl (B.lss_int)) rfl ?_
  clear h a w; intro a w h
  refine wnil (c_then ?_)
  first
   | refine c_condD h rfl (fun ht1 => ?_) (fun ht1 => ?_)
   | refine c_condP h rfl (by first | (simp only [Bool.and_eq_true, Bool.or_eq_true, Bool.not_eq_true', decide_eq_true_eq, decide_eq_false_iff_not, ne_eq, Bool.not_eq_eq_eq_not, Bool.not_true, beq_iff_eq, bne_iff_ne]; exact Iff.rfl) | exact Iff.rfl) (fun ht1 => ?_) (fun ht1 => ?_)
  ·
   have hf : findN xs k = none := by
     rcases hf : findN xs k with _ | y
     · rfl
     · obtain ⟨j, h1, h2⟩ := nodeIx_some xs k 0 y hf
       rw [h1] at ht1; simp at ht1; omega
   have hcv : comV xs k = .tuple ⟨[.agg ⟨comC (BA.zero 32) (.slice none 0 0) (sv [])⟩, .int .i64 2]⟩ := by simp only [comV, hf]
   as_aux_lemma =>
    refine c_seq (c_region ?_)
    refine wv h (r_build h K.u_api_Commit K.z_api_Commit K.pl_api_Commit rfl rfl) rfl ?_
    clear h a w; intro a w h
    change St 21 s a w ((12, .agg ⟨comC (BA.zero 32) (.slice none 0 0) (sv [])⟩) :: _) _ at h
    first
        | (refine wl rfl (op_stA h rfl rfl K.sz_api_Commit (by first | exact Row.len _ | rfl | assumption | (simp; done) | (simp; omega) | omega) (by first | exact Row.one _ | exact bs_one _ | assumption | (simp; done) | (simp; (repeat' apply And.intro) <;> first | rfl | assumption)) 0 rfl (by first | rfl | assumption | (simp; done) | (simp; omega) | omega) ?_))
        | (refine wl rfl (op_stA h rfl rfl K.sz_api_Commit (by first | exact Row.len _ | rfl | assumption | (simp; done) | (simp; omega) | omega) (by first | exact Row.one _ | exact bs_one _ | assumption | (simp; done) | (simp; (repeat' apply And.intro) <;> first | rfl | assumption)) 1 rfl (by first | rfl | assumption | (simp; done) | (simp; omega) | omega) ?_))
        | (refine wl rfl (op_stA h rfl rfl K.sz_api_Commit (by first | exact Row.len _ | rfl | assumption | (simp; done) | (simp; omega) | omega) (by first | exact Row.one _ | exact bs_one _ | assumption | (simp; done) | (simp; (repeat' apply And.intro) <;> first | rfl | assumption)) 2 rfl (by first | rfl | assumption | (simp; done) | (simp; omega) | omega) ?_))
        | (refine wl rfl (op_stA h rfl rfl K.sz_api_Commit (by first | exact Row.len _ | rfl | assumption | (simp; done) | (simp; omega) | omega) (by first | exact Row.one _ | exact bs_one _ | assumption | (simp; done) | (simp; (repeat' apply And.intro) <;> first | rfl | assumption)) 3 rfl (by first | rfl | assumption | (simp; done) | (simp; omega) | omega) ?_))
        | (refine wl rfl (op_stA h rfl rfl K.sz_api_Commit (by first | exact Row.len _ | rfl | assumption | (simp; done) | (simp; omega) | omega) (by first | exact Row.one _ | exact bs_one _ | assumption | (simp; done) | (simp; (repeat' apply And.intro) <;> first | rfl | assumption)) 4 rfl (by first | rfl | assumption | (simp; done) | (simp; omega) | omega) ?_))
        | (refine wl rfl (op_stA h rfl rfl K.sz_api_Commit (by first | exact Row.len _ | rfl | assumption | (simp; done) | (simp; omega) | omega) (by first | exact Row.one _ | exact bs_one _ | assumption | (simp; done) | (simp; (repeat' apply And.intro) <;> first | rfl | assumption)) 5 rfl (by first | rfl | assumption | (simp; done) | (simp; omega) | omega) ?_))
    clear h a w; intro a w h
    (try simp only [List.set_cons_zero, List.set_cons_succ] at h)
    refine wv h (r_assign h rfl) rfl ?_
    clear h a w; intro a w h
    refine wnil (c_then ?_)
    refine c_ret ?_
    exact retct h rfl rfl rfl K.u_api_Commit rfl K.sz_api_Commit 0 rfl (comC_len _ _ _) ⟨(), by rw [hcv], h.2.drop 2, trivial⟩
  ·
   obtain ⟨y, hf⟩ : ∃ y, findN xs k = some y := by
     rcases hf : findN xs k with _ | y
     · rw [nodeIx_none xs k 0 hf] at ht1; simp at ht1
     · exact ⟨y, rfl⟩
   have hcv : comV xs k = .tuple ⟨[.agg ⟨y.com⟩, .int .i64 0]⟩ := by simp only [comV, hf]
   obtain ⟨j, h1, h2⟩ := nodeIx_some xs k 0 y hf
   rw [Nat.zero_add] at h1
   rw [h1] at h
   have hlt : j < xs.length := (List.getElem?_eq_some_iff.1 h2).1
   have l2 : y.com.length = 34 := comC_len _ _ _
   have o2 : ∀ u ∈ y.com, u.oneCell' = true := comC_one rfl rfl
   have hB2 := (hB.cons (Blk b3 (.cells ⟨cellsA k⟩ t_api_Key))).cons (Blk b4 (.cells ⟨comC (BA.zero 32) (.slice none 0 0) (sv [])⟩ t_api_Commit))
   have hc := hB2.1
   have hn := hB2.2.1
   refine c_skip ?_
   refine c_then ?_
   refine c_seq (c_region ?_)
   refine wv h (r_move h rfl) rfl ?_
   clear h a w; intro a w h
   refine wv h (r_nilCheck h rfl) rfl ?_
   clear h a w; intro a w h
   refine wv h (r_fieldAddr0 h rfl K.u_interleafref18_Book rfl K.sz_S_interleafref18_Node rfl rfl) rfl ?_
   clear h a w; intro a w h
   first
      | (refine wv h (r_ldN h rfl K.u_S_interleafref18_Node rfl 0 rfl rfl) rfl ?_)
      | (refine wv h (r_ldN h rfl K.u_S_interleafref18_Node rfl 1 rfl rfl) rfl ?_)
      | (refine wv h (r_ldN h rfl K.u_S_interleafref18_Node rfl 2 rfl rfl) rfl ?_)
      | (refine wv h (r_ldN h rfl K.u_S_interleafref18_Node rfl 3 rfl rfl) rfl ?_)
      | (refine wv h (r_ldN h rfl K.u_S_interleafref18_Node rfl 4 rfl rfl) rfl ?_)
      | (refine wv h (r_ldN h rfl K.u_S_interleafref18_Node rfl 5 rfl rfl) rfl ?_)
      | (refine wv h (r_ldN h rfl K.u_S_interleafref18_Node rfl 6 rfl rfl) rfl ?_)
      | (refine wv h (r_ldC (o := 0) h rfl K.u_S_interleafref18_Node rfl 0 rfl) rfl ?_)
      | (refine wv h (r_ldC (o := 0) h rfl K.u_S_interleafref18_Node rfl 1 rfl) rfl ?_)
      | (refine wv h (r_ldC (o := 0) h rfl K.u_S_interleafref18_Node rfl 2 rfl) rfl ?_)
      | (refine wv h (r_ldC (o := 0) h rfl K.u_S_interleafref18_Node rfl 3 rfl) rfl ?_)
      | (refine wv h (r_ldC (o := 0) h rfl K.u_S_interleafref18_Node rfl 4 rfl) rfl ?_)
      | (refine wv h (r_ldC (o := 0) h rfl K.u_S_interleafref18_Node rfl 5 rfl) rfl ?_)
      | (refine wv h (r_ldC (o := 0) h rfl K.u_S_interleafref18_Node rfl 6 rfl) rfl ?_)
      | (refine wv h (r_load h rfl K.u_S_interleafref18_Node rfl 0 rfl rfl) rfl ?_)
      | (refine wv h (r_load h rfl K.u_S_interleafref18_Node rfl 1 rfl rfl) rfl ?_)
      | (refine wv h (r_load h rfl K.u_S_interleafref18_Node rfl 2 rfl rfl) rfl ?_)
      | (refine wv h (r_load h rfl K.u_S_interleafref18_Node rfl 3 rfl rfl) rfl ?_)
      | (refine wv h (r_load h rfl K.u_S_interleafref18_Node rfl 4 rfl rfl) rfl ?_)
      | (refine wv h (r_load h rfl K.u_S_interleafref18_Node rfl 5 rfl rfl) rfl ?_)
      | (refine wv h (r_load1 h rfl K.u_S_interleafref18_Node rfl (by assumption)) rfl ?_)
   clear h a w; intro a w h
   refine wv h (r_move h rfl) rfl ?_
   clear h a w; intro a w h
   refine wv h (r_elP h rfl rfl K.u_S_interleafref18_Node K.sz_interleafref18_Node (by first | exact Views.own 0 rfl | exact Views.own 1 rfl | exact Views.own 2 rfl | exact Views.own 3 rfl | exact Views.own 4 rfl | exact Views.own 5 rfl | assumption | exact Views.of_drop 1 (by assumption) | exact Views.of_drop 2 (by assumption) | exact Views.of_drop 3 (by assumption) | exact Views.of_drop 4 (by assumption) | exact Views.of_drop 5 (by assumption) | exact Views.of_drop 6 (by assumption) | exact Views.of_drop 7 (by assumption) | exact Views.of_drop 8 (by assumption) | exact Views.of_drop 9 (by assumption) | exact Views.of_drop 10 (by assumption) | exact Views.of_drop 11 (by assumption) | exact Views.of_drop 12 (by assumption)) (by first | omega | (simp; done)) (by first | omega | (simp only [List.length_cons, List.length_nil]; omega) | (simp; done) | (simp; omega))) rfl ?_
   clear h a w; intro a w h
   refine wv h (r_elF h 32 rfl K.u_interleafref18_Node rfl K.sz_api_Commit rfl rfl (by first | exact Views.own 0 rfl | exact Views.own 1 rfl | exact Views.own 2 rfl | exact Views.own 3 rfl | exact Views.own 4 rfl | exact Views.own 5 rfl | assumption | exact Views.of_drop 1 (by assumption) | exact Views.of_drop 2 (by assumption) | exact Views.of_drop 3 (by assumption) | exact Views.of_drop 4 (by assumption) | exact Views.of_drop 5 (by assumption) | exact Views.of_drop 6 (by assumption) | exact Views.of_drop 7 (by assumption) | exact Views.of_drop 8 (by assumption) | exact Views.of_drop 9 (by assumption) | exact Views.of_drop 10 (by assumption) | exact Views.of_drop 11 (by assumption) | exact Views.of_drop 12 (by assumption)) (by first | omega | (simp only [List.length_cons, List.length_nil]; omega) | (simp; done) | (simp; omega))) rfl ?_
   clear h a w; intro a w h
   refine wv h (r_elMa (cells := cellsN) h rfl K.u_api_Commit rfl K.sz_api_Commit hn h2 (cellsN_com y) (comC_len _ _ _) (by decide) rfl) rfl ?_
   clear h a w; intro a w h
   first
      | (refine wl rfl (op_stA h rfl rfl K.sz_api_Commit (by first | exact Row.len _ | rfl | assumption | (simp; done) | (simp; omega) | omega) (by first | exact Row.one _ | exact bs_one _ | assumption | (simp; done) | (simp; (repeat' apply And.intro) <;> first | rfl | assumption)) 0 rfl (by first | rfl | assumption | (simp; done) | (simp; omega) | omega) ?_))
      | (refine wl rfl (op_stA h rfl rfl K.sz_api_Commit (by first | exact Row.len _ | rfl | assumption | (simp; done) | (simp; omega) | omega) (by first | exact Row.one _ | exact bs_one _ | assumption | (simp; done) | (simp; (repeat' apply And.intro) <;> first | rfl | assumption)) 1 rfl (by first | rfl | assumption | (simp; done) | (simp; omega) | omega) ?_))
      | (refine wl rfl (op_stA h rfl rfl K.sz_api_Commit (by first | exact Row.len _ | rfl | assumption | (simp; done) | (simp; omega) | omega) (by first | exact Row.one _ | exact bs_one _ | assumption | (simp; done) | (simp; (repeat' apply And.intro) <;> first | rfl | assumption)) 2 rfl (by first | rfl | assumption | (simp; done) | (simp; omega) | omega) ?_))
      | (refine wl rfl (op_stA h rfl rfl K.sz_api_Commit (by first | exact Row.len _ | rfl | assumption | (simp; done) | (simp; omega) | omega) (by first | exact Row.one _ | exact bs_one _ | assumption | (simp; done) | (simp; (repeat' apply And.intro) <;> first | rfl | assumption)) 3 rfl (by first | rfl | assumption | (simp; done) | (simp; omega) | omega) ?_))
      | (refine wl rfl (op_stA h rfl rfl K.sz_api_Commit (by first | exact Row.len _ | rfl | assumption | (simp; done) | (simp; omega) | omega) (by first | exact Row.one _ | exact bs_one _ | assumption | (simp; done) | (simp; (repeat' apply And.intro) <;> first | rfl | assumption)) 4 rfl (by first | rfl | assumption | (simp; done) | (simp; omega) | omega) ?_))
      | (refine wl rfl (op_stA h rfl rfl K.sz_api_Commit (by first | exact Row.len _ | rfl | assumption | (simp; done) | (simp; omega) | omega) (by first | exact Row.one _ | exact bs_one _ | assumption | (simp; done) | (simp; (repeat' apply And.intro) <;> first | rfl | assumption)) 5 rfl (by first | rfl | assumption | (simp; done) | (simp; omega) | omega) ?_))
   clear h a w; intro a w h
   (try simp only [List.set_cons_zero, List.set_cons_succ] at h)
   refine wv h (r_assign h rfl) rfl ?_
   clear h a w; intro a w h
   refine wnil (c_then ?_)
   refine c_ret ?_
   exact retct h rfl rfl rfl K.u_api_Commit rfl K.sz_api_Commit 0 rfl (comC_len _ _ _) ⟨(), by rw [hcv], h.2.drop 2, trivial⟩
end Go.Proofs.K
