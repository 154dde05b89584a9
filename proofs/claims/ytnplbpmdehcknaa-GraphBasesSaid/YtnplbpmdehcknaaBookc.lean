/- The contracts of a book of commits (the reference's): the base of two. -/
import Derived.Test.YtnplbpmdehcknaaBookb
import Derived.Test.YtnplbpmdehcknaaGraphPure
import Derived.Test.YtnplbpmdehcknaaKeySet
import Derived.Test.YtnplbpmdehcknaaGraphe
set_option linter.unusedVariables false
set_option linter.unusedSimpArgs false
set_option maxRecDepth 10000
set_option maxHeartbeats 2000000
namespace Go.Proofs.K
open Go.Sl
attribute [local irreducible] Go.Sl.Own Go.Sl.Blk Go.Sl.Sep Go.Sl.Ex Go.Sl.Fact
theorem ref_has (s w : World) (v : Value) (l : List Key) (k : Key) (F : List HItem) (hv : Views F 32 v l.length (l.flatMap cellsA)) (hl : l.length ≤ 4000000) (hs : Sat s w F) :
    Calls P n_ref18_has #[v, keyV k] w (Ret s (fun _ : Unit => .bool (decide (k ∈ l))) (fun _ => F) (fun _ => True)) := by
  refine enter K.fn_ref18_has rfl K.nt_ref18_has rfl hs ?_
  clear hs w; intro a w h
  unfold keyV at h
  refine c_seq (c_region ?_)
  refine wl rfl (op_box h rfl rfl ?_)
  clear h a w; intro b3 a w h
  try simp only [Value.cells] at h
  refine wv h (r_assign h rfl) rfl ?_
  clear h a w; intro a w h
  refine wnil (c_then ?_)
  refine c_seq ?_
  refine c_seq (c_region ?_)
  refine wv h (r_assign h rfl) rfl ?_
  clear h a w; intro a w h
  refine wnil (c_then ?_)
  refine c_block ?_
  have hn := hv.cons (Blk b3 (.cells ⟨cellsA k⟩ t_api_Key))
  refine c_loop (X := Nat) (fun i => [(0, v), (3, .pointer (some ⟨b3, 0, none⟩)), (5, .int .i64 (i : Int))]) (fun _ => Blk b3 (.cells ⟨cellsA k⟩ t_api_Key) :: F) (fun i => i ≤ l.length ∧ k ∉ l.take i) (fun i => l.length - i) 0 (h.keep [0, 3, 5]) ⟨Nat.zero_le _, by simp⟩ ?_
  clear h a w; intro x a w hx h
  obtain ⟨h1, h2⟩ := hx
  as_aux_lemma =>
   refine c_seq ?_
   refine c_seq (c_region ?_)
   refine wv h (r_move h rfl) rfl ?_
   clear h a w; intro a w h
   refine wv h (r_move h rfl) rfl ?_
   clear h a w; intro a w h
   refine wv h (r_lenV h rfl K.u_S_api_Key (by first | exact Views.own 0 rfl | exact Views.own 1 rfl | exact Views.own 2 rfl | exact Views.own 3 rfl | exact Views.own 4 rfl | exact Views.own 5 rfl | assumption | exact Views.of_drop 1 (by assumption) | exact Views.of_drop 2 (by assumption) | exact Views.of_drop 3 (by assumption) | exact Views.of_drop 4 (by assumption) | exact Views.of_drop 5 (by assumption) | exact Views.of_drop 6 (by assumption) | exact Views.of_drop 7 (by assumption) | exact Views.of_drop 8 (by assumption) | exact Views.of_drop 9 (by assumption) | exact Views.of_drop 10 (by assumption) | exact Views.of_drop 11 (by assumption) | exact Views.of_drop 12 (by assumption))) rfl ?_
   clear h a w; intro a w h
   refine wv h (r_bin h rfl rfl (B.lss_int)) rfl ?_
   clear h a w; intro a w h
   refine wnil (c_then ?_)
   first
    | refine c_condD h rfl (fun ht1 => ?_) (fun ht1 => ?_)
    | refine c_condP h rfl (by first | (simp only [Bool.and_eq_true, Bool.or_eq_true, Bool.not_eq_true', decide_eq_true_eq, decide_eq_false_iff_not, ne_eq, Bool.not_eq_eq_eq_not, Bool.not_true, beq_iff_eq, bne_iff_ne]; exact Iff.rfl) | exact Iff.rfl) (fun ht1 => ?_) (fun ht1 => ?_)
   ·
    have hlt : x < l.length := by omega
    obtain ⟨y, hy⟩ : ∃ y, l[x]? = some y := ⟨_, List.getElem?_eq_getElem hlt⟩
    refine c_skip ?_
    refine c_then ?_
    refine c_seq ?_
    refine c_block ?_
    refine c_seq (c_draw K.mixed (by kernel_rfl) h ?_)
    clear h a w; intro a hE
    refine qv hE (fun w hw => r_move ⟨hE, hw⟩ rfl) rfl ?_
    clear hE a; intro a hE
    refine qv hE (fun w hw => r_move ⟨hE, hw⟩ rfl) rfl ?_
    clear hE a; intro a hE
    refine qv hE (fun w hw => r_elP ⟨hE, hw⟩ rfl rfl K.u_S_api_Key K.sz_api_Key (by first | exact Views.own 0 rfl | exact Views.own 1 rfl | exact Views.own 2 rfl | exact Views.own 3 rfl | exact Views.own 4 rfl | exact Views.own 5 rfl | assumption | exact Views.of_drop 1 (by assumption) | exact Views.of_drop 2 (by assumption) | exact Views.of_drop 3 (by assumption) | exact Views.of_drop 4 (by assumption) | exact Views.of_drop 5 (by assumption) | exact Views.of_drop 6 (by assumption) | exact Views.of_drop 7 (by assumption) | exact Views.of_drop 8 (by assumption) | exact Views.of_drop 9 (by assumption) | exact Views.of_drop 10 (by assumption) | exact Views.of_drop 11 (by assumption) | exact Views.of_drop 12 (by assumption)) (by first | omega | (simp; done)) (by first | omega | (simp only [List.length_cons, List.length_nil]; omega) | (simp; done) | (simp; omega))) rfl ?_
    clear hE a; intro a hE
    refine qv hE (fun w hw => r_elM (cells := cellsA) ⟨hE, hw⟩ rfl K.u_api_Key rfl K.sz_api_Key rfl hn hy) rfl ?_
    clear hE a; intro a hE
    first
        | (refine qv hE (fun w hw => r_loadA8 ⟨hE, hw⟩ rfl K.u_api_Key rfl K.sz_api_Key 0 rfl (by first | rfl | assumption | (simp; done) | (simp; omega) | omega)) rfl ?_)
        | (refine qv hE (fun w hw => r_loadA8 ⟨hE, hw⟩ rfl K.u_api_Key rfl K.sz_api_Key 1 rfl (by first | rfl | assumption | (simp; done) | (simp; omega) | omega)) rfl ?_)
        | (refine qv hE (fun w hw => r_loadA8 ⟨hE, hw⟩ rfl K.u_api_Key rfl K.sz_api_Key 2 rfl (by first | rfl | assumption | (simp; done) | (simp; omega) | omega)) rfl ?_)
        | (refine qv hE (fun w hw => r_loadA8 ⟨hE, hw⟩ rfl K.u_api_Key rfl K.sz_api_Key 3 rfl (by first | rfl | assumption | (simp; done) | (simp; omega) | omega)) rfl ?_)
        | (refine qv hE (fun w hw => r_loadA8 ⟨hE, hw⟩ rfl K.u_api_Key rfl K.sz_api_Key 4 rfl (by first | rfl | assumption | (simp; done) | (simp; omega) | omega)) rfl ?_)
        | (refine qv hE (fun w hw => r_loadA8 ⟨hE, hw⟩ rfl K.u_api_Key rfl K.sz_api_Key 5 rfl (by first | rfl | assumption | (simp; done) | (simp; omega) | omega)) rfl ?_)
        | (refine qv hE (fun w hw => r_loadCA ⟨hE, hw⟩ rfl K.u_api_Key rfl K.sz_api_Key (by assumption) (by first | rfl | assumption | (simp; done) | (simp; omega) | omega)) rfl ?_)
    clear hE a; intro a hE
    refine qv hE (fun w hw => r_arreq ⟨hE, hw⟩ rfl rfl K.u_api_Key K.u_uint8 K.sz_uint8 (by kernel_rfl) (by first | rfl | assumption | (simp; done) | (simp; omega) | omega) (by first | rfl | assumption | (simp; done) | (simp; omega) | omega)) rfl ?_
    clear hE a; intro a hE
    refine qnil hE ?_
    clear hE a; intro a w h
    refine c_then ?_
    refine c_cond h rfl (fun ht2 => ?_) (fun ht2 => ?_)
    ·
     as_aux_lemma =>
      refine c_seq (c_region ?_)
      refine wv h (r_assign h rfl) rfl ?_
      clear h a w; intro a w h
      refine wnil (c_then ?_)
      refine c_ret ?_
      have e : y = k := BA.ext' (by simpa using ht2)
      have hm : k ∈ l := by rw [← e]; exact List.mem_of_getElem? hy
      rw [show true = decide (k ∈ l) from by simp [hm]] at h
      exact ret1 h rfl rfl ⟨(), rfl, h.2.drop 1, trivial⟩
    ·
     refine c_skip ?_
     refine b_normal ?_
     refine c_then ?_
     refine c_region ?_
     refine wv h (r_move h rfl) rfl ?_
     clear h a w; intro a w h
     refine wv h (r_bin h rfl rfl (B.add_i64 (by omega) (by omega))) rfl ?_
     clear h a w; intro a w h
     refine wv h (r_assign h rfl) rfl ?_
     clear h a w; intro a w h
     refine wnil ?_
     have e : ¬ y = k := fun e => by rw [e] at ht2; simp at ht2
     exact ⟨x + 1, h.keep [0, 3, 5], ⟨by omega, by rw [List.take_add_one, hy]; simp only [Option.toList_some, List.mem_append, List.mem_singleton, not_or]; exact ⟨h2, fun q => e q.symm⟩⟩, by omega⟩
   ·
    refine c_exit ?_
    refine e_then ?_
    refine e_then ?_
    refine e_here ?_
    refine c_then ?_
    refine c_seq (c_region ?_)
    refine wv h (r_assign h rfl) rfl ?_
    clear h a w; intro a w h
    refine wnil (c_then ?_)
    refine c_ret ?_
    have hm : k ∉ l := by rw [List.take_of_length_le (by omega)] at h2; exact h2
    exact ret1 h rfl rfl ⟨(), by simp [hm], h.2.drop 1, trivial⟩

theorem book_Base (s w : World) (b : Nat) (x y : Key) (nv : Value) (xs : List NodeV) (F : List HItem) (rA : Key → List Key) (hrA : ∀ k, rA k = rAll (nsOf xs) 3000 [] [k]) (hrl : ∀ k, (rA k).length ≤ 9000)
    (hB : BookV F b nv xs) (hl : xs.length ≤ 4000000) (hp : ∀ x ∈ xs, x.pars.length ≤ 99) (hs : Sat s w F) :
    Calls P n_ref18_Book_Base #[bp b, keyV x, keyV y] w (Ret s (fun _ : Unit => .tuple #[keyV (baseG rA x y).1, .bool (baseG rA x y).2]) (fun _ => F) (fun _ => True)) := by
  have hlx := hrl x
  have hly := hrl y
  refine enter K.fn_ref18_Book_Base rfl K.nt_ref18_Book_Base rfl hs ?_
  clear hs w; intro a w h
  unfold keyV at h
  refine c_seq (c_region ?_)
  refine wl rfl (op_box h rfl rfl ?_)
  clear h a w; intro b4 a w h
  try simp only [Value.cells] at h
  refine wl rfl (op_box h rfl rfl ?_)
  clear h a w; intro b5 a w h
  try simp only [Value.cells] at h
  refine wl rfl (op_alloc h K.z_api_Key rfl ?_)
  clear h a w; intro b6 a w h
  rw [show (Value.agg (Array.replicate 32 (Value.int .u8 0))).cells = arr8 (List.replicate 32 0) from (arr8_zero 32).symm] at h
  refine wv h (r_assign h rfl) rfl ?_
  clear h a w; intro a w h
  refine wnil (c_then ?_)
  refine c_seq (c_region ?_)
  refine wv h (r_move h rfl) rfl ?_
  clear h a w; intro a w h
  first
    | (refine wv h (r_loadA8 h rfl K.u_api_Key rfl K.sz_api_Key 0 rfl (by first | rfl | assumption | (simp; done) | (simp; omega) | omega)) rfl ?_)
    | (refine wv h (r_loadA8 h rfl K.u_api_Key rfl K.sz_api_Key 1 rfl (by first | rfl | assumption | (simp; done) | (simp; omega) | omega)) rfl ?_)
    | (refine wv h (r_loadA8 h rfl K.u_api_Key rfl K.sz_api_Key 2 rfl (by first | rfl | assumption | (simp; done) | (simp; omega) | omega)) rfl ?_)
    | (refine wv h (r_loadA8 h rfl K.u_api_Key rfl K.sz_api_Key 3 rfl (by first | rfl | assumption | (simp; done) | (simp; omega) | omega)) rfl ?_)
    | (refine wv h (r_loadA8 h rfl K.u_api_Key rfl K.sz_api_Key 4 rfl (by first | rfl | assumption | (simp; done) | (simp; omega) | omega)) rfl ?_)
    | (refine wv h (r_loadA8 h rfl K.u_api_Key rfl K.sz_api_Key 5 rfl (by first | rfl | assumption | (simp; done) | (simp; omega) | omega)) rfl ?_)
    | (refine wv h (r_loadCA h rfl K.u_api_Key rfl K.sz_api_Key (by assumption) (by first | rfl | assumption | (simp; done) | (simp; omega) | omega)) rfl ?_)
  clear h a w; intro a w h
  refine wl rfl (op_build1 h K.u_S_api_Key K.sz_api_Key K.z_api_Key rfl rfl rfl (by first | exact Row.len _ | rfl | assumption | (simp; done) | (simp; omega) | omega) rfl ?_)
  clear h a w; intro b19 a w h
  refine wl rfl (op_call h rfl K.go_ref18_Book_All (book_All s _ b _ [x] nv xs _ (one_view x) (by simp) (by exact BookV.of_drop 4 hB) hl hp h.2) rfl ?_)
  clear h a w; intro v8 a w hv8 h
  (try simp only [List.set_cons_zero, List.set_cons_succ] at h)
  rw [← hrA] at h
  refine wv h (r_assign h rfl) rfl ?_
  clear h a w; intro a w h
  refine wnil (c_then ?_)
  refine c_seq (c_region ?_)
  refine wv h (r_move h rfl) rfl ?_
  clear h a w; intro a w h
  first
    | (refine wv h (r_loadA8 h rfl K.u_api_Key rfl K.sz_api_Key 0 rfl (by first | rfl | assumption | (simp; done) | (simp; omega) | omega)) rfl ?_)
    | (refine wv h (r_loadA8 h rfl K.u_api_Key rfl K.sz_api_Key 1 rfl (by first | rfl | assumption | (simp; done) | (simp; omega) | omega)) rfl ?_)
    | (refine wv h (r_loadA8 h rfl K.u_api_Key rfl K.sz_api_Key 2 rfl (by first | rfl | assumption | (simp; done) | (simp; omega) | omega)) rfl ?_)
    | (refine wv h (r_loadA8 h rfl K.u_api_Key rfl K.sz_api_Key 3 rfl (by first | rfl | assumption | (simp; done) | (simp; omega) | omega)) rfl ?_)
    | (refine wv h (r_loadA8 h rfl K.u_api_Key rfl K.sz_api_Key 4 rfl (by first | rfl | assumption | (simp; done) | (simp; omega) | omega)) rfl ?_)
    | (refine wv h (r_loadA8 h rfl K.u_api_Key rfl K.sz_api_Key 5 rfl (by first | rfl | assumption | (simp; done) | (simp; omega) | omega)) rfl ?_)
    | (refine wv h (r_loadCA h rfl K.u_api_Key rfl K.sz_api_Key (by assumption) (by first | rfl | assumption | (simp; done) | (simp; omega) | omega)) rfl ?_)
  clear h a w; intro a w h
  refine wl rfl (op_build1 h K.u_S_api_Key K.sz_api_Key K.z_api_Key rfl rfl rfl (by first | exact Row.len _ | rfl | assumption | (simp; done) | (simp; omega) | omega) rfl ?_)
  clear h a w; intro b23 a w h
  refine wl rfl (op_call h rfl K.go_ref18_Book_All (book_All s _ b _ [y] nv xs _ (one_view y) (by simp) (by exact BookV.of_drop 6 hB) hl hp h.2) rfl ?_)
  clear h a w; intro v9 a w hv9 h
  (try simp only [List.set_cons_zero, List.set_cons_succ] at h)
  rw [← hrA] at h
  refine wv h (r_assign h rfl) rfl ?_
  clear h a w; intro a w h
  refine wnil (c_then ?_)
  refine c_seq (c_region ?_)
  refine wv h (r_assign h rfl) rfl ?_
  clear h a w; intro a w h
  refine wnil (c_then ?_)
  refine c_seq ?_
  refine c_seq (c_region ?_)
  refine wv h (r_assign h rfl) rfl ?_
  clear h a w; intro a w h
  refine wnil (c_then ?_)
  refine c_block ?_
  replace h := h.addNilM (size := 32) (cells := cellsA (n := 32))
  replace h : St _ _ _ _ _ (OwnM 32 cellsA (.slice none 0 0) [] :: OwnM 32 cellsA v9 (rA y) :: OwnM 32 cellsA v8 (rA x) :: Blk b6 (.cells (arr8 (List.replicate 32 0)) t_api_Key) :: F) := ⟨h.1, (by have q := h.2; replace q := (q.front 2 rfl).tail; replace q := (q.front 3 rfl).tail; replace q := (q.front 4 rfl).tail; replace q := (q.front 4 rfl).tail; replace q := q.front 3 rfl; replace q := q.front 3 rfl; replace q := q.front 3 rfl; replace q := q.front 3 rfl; exact q)⟩
  refine c_loop (X := Nat × Value) (fun z => [(0, bp b), (6, gp b6), (8, v8), (9, v9), (10, z.2), (11, .int .i64 (z.1 : Int))])
    (fun z => OwnM 32 cellsA z.2 (((rA x).take z.1).filter fun k => decide (k ∈ rA y)) :: OwnM 32 cellsA v9 (rA y) :: OwnM 32 cellsA v8 (rA x) :: Blk b6 (.cells (arr8 (List.replicate 32 0)) t_api_Key) :: F)
    (fun z => z.1 ≤ (rA x).length) (fun z => (rA x).length - z.1) (0, .slice none 0 0) (h.keep [0, 6, 8, 9, 10, 11]) (Nat.zero_le _) ?_
  clear h a w; intro z a w hz h
  obtain ⟨i, v10⟩ := z
  simp only at hz h
  have hfl : ((((rA x).take i).filter fun k => decide (k ∈ rA y))).length ≤ 9000 := Nat.le_trans (List.length_filter_le _ _) (by simp; omega)
  as_aux_lemma =>
   refine c_seq ?_
   refine c_seq (c_region ?_)
   refine wv h (r_move h rfl) rfl ?_
   clear h a w; intro a w h
   refine wv h (r_move h rfl) rfl ?_
   clear h a w; intro a w h
   refine wv h (r_lenV h rfl K.u_S_api_Key (by first | exact Views.own 0 rfl | exact Views.own 1 rfl | exact Views.own 2 rfl | exact Views.own 3 rfl | exact Views.own 4 rfl | exact Views.own 5 rfl | assumption | exact Views.of_drop 1 (by assumption) | exact Views.of_drop 2 (by assumption) | exact Views.of_drop 3 (by assumption) | exact Views.of_drop 4 (by assumption) | exact Views.of_drop 5 (by assumption) | exact Views.of_drop 6 (by assumption) | exact Views.of_drop 7 (by assumption) | exact Views.of_drop 8 (by assumption) | exact Views.of_drop 9 (by assumption) | exact Views.of_drop 10 (by assumption) | exact Views.of_drop 11 (by assumption) | exact Views.of_drop 12 (by assumption))) rfl ?_
   clear h a w; intro a w h
   refine wv h (r_bin h rfl rfl (B.lss_int)) rfl ?_
   clear h a w; intro a w h
   refine wnil (c_then ?_)
   first
    | refine c_condD h rfl (fun ht1 => ?_) (fun ht1 => ?_)
    | refine c_condP h rfl (by first | (simp only [Bool.and_eq_true, Bool.or_eq_true, Bool.not_eq_true', decide_eq_true_eq, decide_eq_false_iff_not, ne_eq, Bool.not_eq_eq_eq_not, Bool.not_true, beq_iff_eq, bne_iff_ne]; exact Iff.rfl) | exact Iff.rfl) (fun ht1 => ?_) (fun ht1 => ?_)
   ·
    have hlt : i < (rA x).length := by omega
    obtain ⟨k, hk⟩ : ∃ k, (rA x)[i]? = some k := ⟨_, List.getElem?_eq_getElem hlt⟩
    have htk : (rA x).take (i + 1) = (rA x).take i ++ [k] := by rw [List.take_add_one, hk]; rfl
    refine c_skip ?_
    refine c_then ?_
    refine c_seq ?_
    refine c_block ?_
    refine c_seq (c_region ?_)
    refine wv h (r_move h rfl) rfl ?_
    clear h a w; intro a w h
    refine wv h (r_move h rfl) rfl ?_
    clear h a w; intro a w h
    refine wv h (r_move h rfl) rfl ?_
    clear h a w; intro a w h
    refine wv h (r_elP h rfl rfl K.u_S_api_Key K.sz_api_Key (by first | exact Views.own 0 rfl | exact Views.own 1 rfl | exact Views.own 2 rfl | exact Views.own 3 rfl | exact Views.own 4 rfl | exact Views.own 5 rfl | assumption | exact Views.of_drop 1 (by assumption) | exact Views.of_drop 2 (by assumption) | exact Views.of_drop 3 (by assumption) | exact Views.of_drop 4 (by assumption) | exact Views.of_drop 5 (by assumption) | exact Views.of_drop 6 (by assumption) | exact Views.of_drop 7 (by assumption) | exact Views.of_drop 8 (by assumption) | exact Views.of_drop 9 (by assumption) | exact Views.of_drop 10 (by assumption) | exact Views.of_drop 11 (by assumption) | exact Views.of_drop 12 (by assumption)) (by first | omega | (simp; done)) (by first | omega | (simp only [List.length_cons, List.length_nil]; omega) | (simp; done) | (simp; omega))) rfl ?_
    clear h a w; intro a w h
    refine wv h (r_elM (cells := cellsA) h rfl K.u_api_Key rfl K.sz_api_Key rfl (Views.own 2 rfl) hk) rfl ?_
    clear h a w; intro a w h
    refine wl rfl (op_call h rfl K.go_ref18_has (ref_has s _ v9 (rA y) k _ (Views.own 1 rfl) (by omega) h.2) rfl ?_)
    clear h a w; intro z a w hz3 h
    (try simp only [List.set_cons_zero, List.set_cons_succ] at h)
    refine wnil (c_then ?_)
    refine c_condD h rfl (fun ht2 => ?_) (fun ht2 => ?_)
    ·
     as_aux_lemma =>
      refine c_region ?_
      refine wv h (r_move h rfl) rfl ?_
      clear h a w; intro a w h
      refine wv h (r_move h rfl) rfl ?_
      clear h a w; intro a w h
      refine wv h (r_move h rfl) rfl ?_
      clear h a w; intro a w h
      refine wv h (r_elP h rfl rfl K.u_S_api_Key K.sz_api_Key (by first | exact Views.own 0 rfl | exact Views.own 1 rfl | exact Views.own 2 rfl | exact Views.own 3 rfl | exact Views.own 4 rfl | exact Views.own 5 rfl | assumption | exact Views.of_drop 1 (by assumption) | exact Views.of_drop 2 (by assumption) | exact Views.of_drop 3 (by assumption) | exact Views.of_drop 4 (by assumption) | exact Views.of_drop 5 (by assumption) | exact Views.of_drop 6 (by assumption) | exact Views.of_drop 7 (by assumption) | exact Views.of_drop 8 (by assumption) | exact Views.of_drop 9 (by assumption) | exact Views.of_drop 10 (by assumption) | exact Views.of_drop 11 (by assumption) | exact Views.of_drop 12 (by assumption)) (by first | omega | (simp; done)) (by first | omega | (simp only [List.length_cons, List.length_nil]; omega) | (simp; done) | (simp; omega))) rfl ?_
      clear h a w; intro a w h
      refine wv h (r_elM (cells := cellsA) h rfl K.u_api_Key rfl K.sz_api_Key rfl (Views.own 2 rfl) hk) rfl ?_
      clear h a w; intro a w h
      refine wl rfl (op_build1 h K.u_S_api_Key K.sz_api_Key K.z_api_Key rfl rfl rfl (by first | exact Row.len _ | rfl | assumption | (simp; done) | (simp; omega) | omega) rfl ?_)
      clear h a w; intro b42 a w h
      refine wl rfl (op_appendR1 (cells := cellsA) (u := k) h rfl rfl K.u_S_api_Key K.sz_api_Key K.z_api_Key rfl rfl 0 rfl (Nat.le_trans (Nat.succ_le_succ hfl) (by decide)) rfl ?_)
      clear h a w; intro v43 a w h
      simp only [List.set_cons_zero, List.set_cons_succ] at h
      refine wv h (r_assign h rfl) rfl ?_
      clear h a w; intro a w h
      refine wnil ?_
      refine b_normal ?_
      refine c_then ?_
      refine c_region ?_
      refine wv h (r_move h rfl) rfl ?_
      clear h a w; intro a w h
      refine wv h (r_bin h rfl rfl (B.add_i64 (by omega) (by omega))) rfl ?_
      clear h a w; intro a w h
      refine wv h (r_assign h rfl) rfl ?_
      clear h a w; intro a w h
      refine wnil ?_
      refine ⟨(i + 1, v43), ?_, hlt, by show (rA x).length - (i + 1) < (rA x).length - i; omega⟩
      have e : ((rA x).take (i + 1)).filter (fun k => decide (k ∈ rA y)) = (((rA x).take i).filter fun k => decide (k ∈ rA y)) ++ [k] := by rw [htk, List.filter_append, List.filter_cons_of_pos (by simpa using ht2)]; rfl
      show St _ _ _ _ _ (OwnM 32 cellsA v43 (((rA x).take (i + 1)).filter fun k => decide (k ∈ rA y)) :: _)
      rw [e]
      exact h.keep [0, 6, 8, 9, 10, 11]
    ·
     refine c_skip ?_
     refine b_normal ?_
     refine c_then ?_
     refine c_region ?_
     refine wv h (r_move h rfl) rfl ?_
     clear h a w; intro a w h
     refine wv h (r_bin h rfl rfl (B.add_i64 (by omega) (by omega))) rfl ?_
     clear h a w; intro a w h
     refine wv h (r_assign h rfl) rfl ?_
     clear h a w; intro a w h
     refine wnil ?_
     refine ⟨(i + 1, v10), ?_, hlt, by show (rA x).length - (i + 1) < (rA x).length - i; omega⟩
     have e : ((rA x).take (i + 1)).filter (fun k => decide (k ∈ rA y)) = (((rA x).take i).filter fun k => decide (k ∈ rA y)) := by rw [htk, List.filter_append, List.filter_cons_of_neg (by simpa using ht2)]; simp
     show St _ _ _ _ _ (OwnM 32 cellsA v10 (((rA x).take (i + 1)).filter fun k => decide (k ∈ rA y)) :: _)
     rw [e]
     exact h.keep [0, 6, 8, 9, 10, 11]
   ·
    refine c_exit ?_
    refine e_then ?_
    refine e_then ?_
    refine e_here ?_
    refine c_then ?_
    rw [List.take_of_length_le (by omega)] at h hfl
    obtain ⟨both, hboth⟩ : ∃ both, both = (rA x).filter fun k => decide (k ∈ rA y) := ⟨_, rfl⟩
    rw [← hboth] at h hfl
    have hb : baseG rA x y = bestG rA both both 0 (BA.zero 32) false := by rw [baseG, ← hboth]
    refine c_seq (c_region ?_)
    refine wl rfl (op_alloc h K.z_api_Key rfl ?_)
    clear h a w; intro b12 a w h
    rw [show (Value.agg (Array.replicate 32 (Value.int .u8 0))).cells = arr8 (List.replicate 32 0) from (arr8_zero 32).symm] at h
    refine wnil (c_then ?_)
    refine c_seq (c_region ?_)
    refine wv h (r_assign h rfl) rfl ?_
    clear h a w; intro a w h
    refine wnil (c_then ?_)
    refine c_seq ?_
    refine c_seq (c_region ?_)
    refine wv h (r_assign h rfl) rfl ?_
    clear h a w; intro a w h
    refine wnil (c_then ?_)
    refine c_block ?_
    refine c_loop (X := Nat × Key × Bool) (fun z => [(0, bp b), (6, gp b6), (10, v10), (12, gp b12), (13, .bool z.2.2), (14, .int .i64 (z.1 : Int))])
      (fun z => Blk b12 (.cells ⟨cellsA z.2.1⟩ t_api_Key) :: OwnM 32 cellsA v10 both :: Blk b6 (.cells (arr8 (List.replicate 32 0)) t_api_Key) :: F)
      (fun z => z.1 ≤ both.length ∧ baseG rA x y = bestG rA both (both.drop z.1) z.1 z.2.1 z.2.2) (fun z => both.length - z.1) (0, BA.zero 32, false) (⟨(h.keep [0, 6, 10, 12, 13, 14]).1, (by have q := h.2; replace q := (q.front 2 rfl).tail; replace q := (q.front 2 rfl).tail; replace q := q.front 2 rfl; replace q := q.front 2 rfl; replace q := q.front 2 rfl; exact q)⟩) ⟨Nat.zero_le _, hb⟩ ?_
    clear h a w; intro z a w hz h
    obtain ⟨i, best, ok⟩ := z
    obtain ⟨h1, h2⟩ := hz
    simp only at h1 h2 h
    as_aux_lemma =>
     refine c_seq ?_
     refine c_seq (c_region ?_)
     refine wv h (r_move h rfl) rfl ?_
     clear h a w; intro a w h
     refine wv h (r_move h rfl) rfl ?_
     clear h a w; intro a w h
     refine wv h (r_lenV h rfl K.u_S_api_Key (by first | exact Views.own 0 rfl | exact Views.own 1 rfl | exact Views.own 2 rfl | exact Views.own 3 rfl | exact Views.own 4 rfl | exact Views.own 5 rfl | assumption | exact Views.of_drop 1 (by assumption) | exact Views.of_drop 2 (by assumption) | exact Views.of_drop 3 (by assumption) | exact Views.of_drop 4 (by assumption) | exact Views.of_drop 5 (by assumption) | exact Views.of_drop 6 (by assumption) | exact Views.of_drop 7 (by assumption) | exact Views.of_drop 8 (by assumption) | exact Views.of_drop 9 (by assumption) | exact Views.of_drop 10 (by assumption) | exact Views.of_drop 11 (by assumption) | exact Views.of_drop 12 (by assumption))) rfl ?_
     clear h a w; intro a w h
     refine wv h (r_bin h rfl rfl (B.lss_int)) rfl ?_
     clear h a w; intro a w h
     refine wnil (c_then ?_)
     first
      | refine c_condD h rfl (fun ht3 => ?_) (fun ht3 => ?_)
      | refine c_condP h rfl (by first | (simp only [Bool.and_eq_true, Bool.or_eq_true, Bool.not_eq_true', decide_eq_true_eq, decide_eq_false_iff_not, ne_eq, Bool.not_eq_eq_eq_not, Bool.not_true, beq_iff_eq, bne_iff_ne]; exact Iff.rfl) | exact Iff.rfl) (fun ht3 => ?_) (fun ht3 => ?_)
     ·
      have hlt : i < both.length := by omega
      obtain ⟨y1, hy1⟩ : ∃ y1, both[i]? = some y1 := ⟨_, List.getElem?_eq_getElem hlt⟩
      rw [bestG_step rA both both best ok hy1] at h2
      refine c_skip ?_
      refine c_then ?_
      refine c_seq ?_
      refine c_block ?_
      refine c_seq (c_region ?_)
      refine wv h (r_assign h rfl) rfl ?_
      clear h a w; intro a w h
      refine wnil (c_then ?_)
      refine c_seq ?_
      refine c_seq (c_region ?_)
      refine wv h (r_assign h rfl) rfl ?_
      clear h a w; intro a w h
      refine wnil (c_then ?_)
      refine c_block ?_
      refine c_loop (X := Nat × Bool) (fun z => [(0, bp b), (6, gp b6), (10, v10), (12, gp b12), (13, .bool ok), (14, .int .i64 (i : Int)), (15, .bool z.2), (16, .int .i64 (z.1 : Int))])
        (fun z => Blk b12 (.cells ⟨cellsA best⟩ t_api_Key) :: OwnM 32 cellsA v10 both :: Blk b6 (.cells (arr8 (List.replicate 32 0)) t_api_Key) :: F)
        (fun z => z.1 ≤ both.length ∧ topG rA y1 i both 0 true = topG rA y1 i (both.drop z.1) z.1 z.2) (fun z => both.length - z.1) (0, true) (h.keep [0, 6, 10, 12, 13, 14, 15, 16]) ⟨Nat.zero_le _, rfl⟩ ?_
      clear h a w; intro z a w hz h
      obtain ⟨k, top⟩ := z
      obtain ⟨h3, h4⟩ := hz
      simp only at h3 h4 h
      as_aux_lemma =>
       refine c_seq ?_
       refine c_seq (c_region ?_)
       refine wv h (r_move h rfl) rfl ?_
       clear h a w; intro a w h
       refine wv h (r_move h rfl) rfl ?_
       clear h a w; intro a w h
       refine wv h (r_lenV h rfl K.u_S_api_Key (by first | exact Views.own 0 rfl | exact Views.own 1 rfl | exact Views.own 2 rfl | exact Views.own 3 rfl | exact Views.own 4 rfl | exact Views.own 5 rfl | assumption | exact Views.of_drop 1 (by assumption) | exact Views.of_drop 2 (by assumption) | exact Views.of_drop 3 (by assumption) | exact Views.of_drop 4 (by assumption) | exact Views.of_drop 5 (by assumption) | exact Views.of_drop 6 (by assumption) | exact Views.of_drop 7 (by assumption) | exact Views.of_drop 8 (by assumption) | exact Views.of_drop 9 (by assumption) | exact Views.of_drop 10 (by assumption) | exact Views.of_drop 11 (by assumption) | exact Views.of_drop 12 (by assumption))) rfl ?_
       clear h a w; intro a w h
       refine wv h (r_bin h rfl rfl (B.lss_int)) rfl ?_
       clear h a w; intro a w h
       refine wnil (c_then ?_)
       first
        | refine c_condD h rfl (fun ht4 => ?_) (fun ht4 => ?_)
        | refine c_condP h rfl (by first | (simp only [Bool.and_eq_true, Bool.or_eq_true, Bool.not_eq_true', decide_eq_true_eq, decide_eq_false_iff_not, ne_eq, Bool.not_eq_eq_eq_not, Bool.not_true, beq_iff_eq, bne_iff_ne]; exact Iff.rfl) | exact Iff.rfl) (fun ht4 => ?_) (fun ht4 => ?_)
       ·
        have hklt : k < both.length := by omega
        obtain ⟨z1, hz1⟩ : ∃ z1, both[k]? = some z1 := ⟨_, List.getElem?_eq_getElem hklt⟩
        rw [topG_step rA y1 i both top hz1] at h4
        refine c_skip ?_
        refine c_then ?_
        refine c_seq ?_
        refine c_block ?_
        rcases hgk : decide ((k : Int) ≠ (i : Int)) with _ | _
        ·
         refine c_seq (c_drawn 17 K.mixed rfl h ?_)
         clear h a w; intro a w h
         have hD : Paid s w [] := Paid.nil
         refine d_take0 (listed' := #[true, false, false, false, false, false, false, false, false, false, false, false, false, false, false, false, false]) h hD 0 (by as_aux_lemma => kernel_rfl) rfl (by as_aux_lemma => kernel_rfl) (by as_aux_lemma => kernel_rfl) (by as_aux_lemma => kernel_rfl) (fun _ _ _ _ hh => hh) (fun w h => by first | exact r_move h rfl) rfl ?_
         clear hD h a w; intro a w h hD
         refine d_take0 (listed' := #[true, true, false, false, false, false, false, false, false, false, false, false, false, false, false, false, false]) h hD 1 (by as_aux_lemma => kernel_rfl) rfl (by as_aux_lemma => kernel_rfl) (by as_aux_lemma => kernel_rfl) (by as_aux_lemma => kernel_rfl) (fun _ _ _ _ hh => hh) (fun w h => by first | exact r_move h rfl) rfl ?_
         clear hD h a w; intro a w h hD
         refine d_take0 (listed' := #[true, true, true, false, false, false, false, false, false, false, false, false, false, false, false, false, false]) h hD 2 (by as_aux_lemma => kernel_rfl) rfl (by as_aux_lemma => kernel_rfl) (by as_aux_lemma => kernel_rfl) (by as_aux_lemma => kernel_rfl) (fun _ _ _ _ hh => hh) (fun w h => by first | exact r_bin h rfl rfl (B.neq_int)) rfl ?_
         clear hD h a w; intro a w h hD
         rw [hgk] at h
         refine d_take0 (listed' := #[true, true, true, true, false, false, false, false, false, false, false, false, false, false, false, false, false]) h hD 3 (by as_aux_lemma => kernel_rfl) rfl (by as_aux_lemma => kernel_rfl) (by as_aux_lemma => kernel_rfl) (by as_aux_lemma => kernel_rfl) (fun _ _ _ _ hh => hh) (fun w h => by first | exact r_move h rfl) rfl ?_
         clear hD h a w; intro a w h hD
         first | (refine d_take0G (listed' := #[true, true, true, true, true, false, false, false, false, false, false, false, false, false, false, false, false]) h hD 4 (by as_aux_lemma => kernel_rfl) rfl (by as_aux_lemma => kernel_rfl) (by as_aux_lemma => kernel_rfl) (by as_aux_lemma => kernel_rfl) (fun _ _ _ _ hh => hh) (by first | exact .t rfl | exact .f rfl | exact .gt rfl | exact .gf rfl) (fun hg w h => by (try simp only [↓gval_on hg, ↓gval_and hg] at h); (have hg2 := hg; (try simp only [Bool.and_eq_true, Bool.or_eq_true, Bool.not_eq_true', decide_eq_true_eq, decide_eq_false_iff_not] at hg2)); first | exact r_move h rfl) rfl ?_) | (refine d_skipQ (listed' := #[true, true, true, true, true, false, false, false, false, false, false, false, false, false, false, false, false]) h hD 4 (by as_aux_lemma => kernel_rfl) rfl (by as_aux_lemma => kernel_rfl) (by as_aux_lemma => kernel_rfl) (by as_aux_lemma => kernel_rfl) (fun _ _ _ _ hh => hh) (by first | exact .t rfl | exact .f rfl | exact .gt rfl | exact .gf rfl) (by first | rfl | assumption | simpa | simpa [*]) rfl ?_)
         clear hD h a w; intro a w h hD
         first | (refine d_take0G (listed' := #[true, true, true, true, true, true, false, false, false, false, false, false, false, false, false, false, false]) h hD 5 (by as_aux_lemma => kernel_rfl) rfl (by as_aux_lemma => kernel_rfl) (by as_aux_lemma => kernel_rfl) (by as_aux_lemma => kernel_rfl) (fun _ _ _ _ hh => hh) (by first | exact .t rfl | exact .f rfl | exact .gt rfl | exact .gf rfl) (fun hg w h => by (try simp only [↓gval_on hg, ↓gval_and hg] at h); (have hg2 := hg; (try simp only [Bool.and_eq_true, Bool.or_eq_true, Bool.not_eq_true', decide_eq_true_eq, decide_eq_false_iff_not] at hg2)); first | exact r_move h rfl) rfl ?_) | (refine d_skipQ (listed' := #[true, true, true, true, true, true, false, false, false, false, false, false, false, false, false, false, false]) h hD 5 (by as_aux_lemma => kernel_rfl) rfl (by as_aux_lemma => kernel_rfl) (by as_aux_lemma => kernel_rfl) (by as_aux_lemma => kernel_rfl) (fun _ _ _ _ hh => hh) (by first | exact .t rfl | exact .f rfl | exact .gt rfl | exact .gf rfl) (by first | rfl | assumption | simpa | simpa [*]) rfl ?_)
         clear hD h a w; intro a w h hD
         first | (refine d_take0G (listed' := #[true, true, true, true, true, true, true, false, false, false, false, false, false, false, false, false, false]) h hD 6 (by as_aux_lemma => kernel_rfl) rfl (by as_aux_lemma => kernel_rfl) (by as_aux_lemma => kernel_rfl) (by as_aux_lemma => kernel_rfl) (fun _ _ _ _ hh => hh) (by first | exact .t rfl | exact .f rfl | exact .gt rfl | exact .gf rfl) (fun hg w h => by (try simp only [↓gval_on hg, ↓gval_and hg] at h); (have hg2 := hg; (try simp only [Bool.and_eq_true, Bool.or_eq_true, Bool.not_eq_true', decide_eq_true_eq, decide_eq_false_iff_not] at hg2)); first | exact r_move h rfl) rfl ?_) | (refine d_skipQ (listed' := #[true, true, true, true, true, true, true, false, false, false, false, false, false, false, false, false, false]) h hD 6 (by as_aux_lemma => kernel_rfl) rfl (by as_aux_lemma => kernel_rfl) (by as_aux_lemma => kernel_rfl) (by as_aux_lemma => kernel_rfl) (fun _ _ _ _ hh => hh) (by first | exact .t rfl | exact .f rfl | exact .gt rfl | exact .gf rfl) (by first | rfl | assumption | simpa | simpa [*]) rfl ?_)
         clear hD h a w; intro a w h hD
         first | (refine d_takeG (listed' := #[true, true, true, true, true, true, true, true, false, false, false, false, false, false, false, false, false]) h hD 7 _ (by as_aux_lemma => kernel_rfl) rfl (by as_aux_lemma => kernel_rfl) (by as_aux_lemma => kernel_rfl) (by as_aux_lemma => kernel_rfl) (fun _ _ _ _ hh => hh) h.2 (by first | exact .t rfl | exact .f rfl | exact .gt rfl | exact .gf rfl) (fun hg w hw => by (try simp only [↓gval_on hg, ↓gval_and hg] at h); (have hg2 := hg; (try simp only [Bool.and_eq_true, Bool.or_eq_true, Bool.not_eq_true', decide_eq_true_eq, decide_eq_false_iff_not] at hg2)); first | exact r_elP ⟨h.1, hw⟩ rfl rfl K.u_S_api_Key K.sz_api_Key (by first | exact Views.own 0 rfl | exact Views.own 1 rfl | exact Views.own 2 rfl | exact Views.own 3 rfl | exact Views.own 4 rfl | exact Views.own 5 rfl | assumption | exact Views.of_drop 1 (by assumption) | exact Views.of_drop 2 (by assumption) | exact Views.of_drop 3 (by assumption) | exact Views.of_drop 4 (by assumption) | exact Views.of_drop 5 (by assumption) | exact Views.of_drop 6 (by assumption) | exact Views.of_drop 7 (by assumption) | exact Views.of_drop 8 (by assumption) | exact Views.of_drop 9 (by assumption) | exact Views.of_drop 10 (by assumption) | exact Views.of_drop 11 (by assumption) | exact Views.of_drop 12 (by assumption)) (by first | omega | (simp; done)) (by first | omega | (simp only [List.length_cons, List.length_nil]; omega) | (simp; done) | (simp; omega))) rfl ?_) | (refine d_skipF (listed' := #[true, true, true, true, true, true, true, true, false, false, false, false, false, false, false, false, false]) h hD 7 (by as_aux_lemma => kernel_rfl) rfl (by as_aux_lemma => kernel_rfl) (by as_aux_lemma => kernel_rfl) (by as_aux_lemma => kernel_rfl) (fun _ _ _ _ hh => hh) (by first | exact .t rfl | exact .f rfl | exact .gt rfl | exact .gf rfl) (by first | rfl | assumption | simpa | simpa [*]) rfl ?_)
         clear hD h a w; intro a w h hD
         first | (refine d_takeG (listed' := #[true, true, true, true, true, true, true, true, true, false, false, false, false, false, false, false, false]) h hD 8 _ (by as_aux_lemma => kernel_rfl) rfl (by as_aux_lemma => kernel_rfl) (by as_aux_lemma => kernel_rfl) (by as_aux_lemma => kernel_rfl) (fun _ _ _ _ hh => hh) h.2 (by first | exact .t rfl | exact .f rfl | exact .gt rfl | exact .gf rfl) (fun hg w hw => by (try simp only [↓gval_on hg, ↓gval_and hg] at h); (have hg2 := hg; (try simp only [Bool.and_eq_true, Bool.or_eq_true, Bool.not_eq_true', decide_eq_true_eq, decide_eq_false_iff_not] at hg2)); first | exact r_elM ⟨h.1, hw⟩ rfl K.u_api_Key rfl K.sz_api_Key rfl (by first | exact Views.own 0 rfl | exact Views.own 1 rfl | exact Views.own 2 rfl | exact Views.own 3 rfl | exact Views.own 4 rfl | exact Views.own 5 rfl | assumption | exact Views.of_drop 1 (by assumption) | exact Views.of_drop 2 (by assumption) | exact Views.of_drop 3 (by assumption) | exact Views.of_drop 4 (by assumption) | exact Views.of_drop 5 (by assumption) | exact Views.of_drop 6 (by assumption) | exact Views.of_drop 7 (by assumption) | exact Views.of_drop 8 (by assumption) | exact Views.of_drop 9 (by assumption) | exact Views.of_drop 10 (by assumption) | exact Views.of_drop 11 (by assumption) | exact Views.of_drop 12 (by assumption)) (by assumption) | exact r_elMd ⟨h.1, hw⟩ rfl K.u_api_Key rfl K.sz_api_Key rfl (by first | exact Views.own 0 rfl | exact Views.own 1 rfl | exact Views.own 2 rfl | exact Views.own 3 rfl | exact Views.own 4 rfl | exact Views.own 5 rfl | assumption | exact Views.of_drop 1 (by assumption) | exact Views.of_drop 2 (by assumption) | exact Views.of_drop 3 (by assumption) | exact Views.of_drop 4 (by assumption) | exact Views.of_drop 5 (by assumption) | exact Views.of_drop 6 (by assumption) | exact Views.of_drop 7 (by assumption) | exact Views.of_drop 8 (by assumption) | exact Views.of_drop 9 (by assumption) | exact Views.of_drop 10 (by assumption) | exact Views.of_drop 11 (by assumption) | exact Views.of_drop 12 (by assumption)) (by first | omega | (simp only [List.length_cons, List.length_nil]; omega) | (simp; done) | (simp; omega))) rfl ?_) | (refine d_skipF (listed' := #[true, true, true, true, true, true, true, true, true, false, false, false, false, false, false, false, false]) h hD 8 (by as_aux_lemma => kernel_rfl) rfl (by as_aux_lemma => kernel_rfl) (by as_aux_lemma => kernel_rfl) (by as_aux_lemma => kernel_rfl) (fun _ _ _ _ hh => hh) (by first | exact .t rfl | exact .f rfl | exact .gt rfl | exact .gf rfl) (by first | rfl | assumption | simpa | simpa [*]) rfl ?_)
         clear hD h a w; intro a w h hD
         first | (refine d_take0G (listed' := #[true, true, true, true, true, true, true, true, true, false, false, true, false, false, false, false, false]) h hD 11 (by as_aux_lemma => kernel_rfl) rfl (by as_aux_lemma => kernel_rfl) (by as_aux_lemma => kernel_rfl) (by as_aux_lemma => kernel_rfl) (fun _ _ _ _ hh => hh) (by first | exact .t rfl | exact .f rfl | exact .gt rfl | exact .gf rfl) (fun hg w h => by (try simp only [↓gval_on hg, ↓gval_and hg] at h); (have hg2 := hg; (try simp only [Bool.and_eq_true, Bool.or_eq_true, Bool.not_eq_true', decide_eq_true_eq, decide_eq_false_iff_not] at hg2)); first | exact r_move h rfl) rfl ?_) | (refine d_skipQ (listed' := #[true, true, true, true, true, true, true, true, true, false, false, true, false, false, false, false, false]) h hD 11 (by as_aux_lemma => kernel_rfl) rfl (by as_aux_lemma => kernel_rfl) (by as_aux_lemma => kernel_rfl) (by as_aux_lemma => kernel_rfl) (fun _ _ _ _ hh => hh) (by first | exact .t rfl | exact .f rfl | exact .gt rfl | exact .gf rfl) (by first | rfl | assumption | simpa | simpa [*]) rfl ?_)
         clear hD h a w; intro a w h hD
         first | (refine d_take0G (listed' := #[true, true, true, true, true, true, true, true, true, false, false, true, true, false, false, false, false]) h hD 12 (by as_aux_lemma => kernel_rfl) rfl (by as_aux_lemma => kernel_rfl) (by as_aux_lemma => kernel_rfl) (by as_aux_lemma => kernel_rfl) (fun _ _ _ _ hh => hh) (by first | exact .t rfl | exact .f rfl | exact .gt rfl | exact .gf rfl) (fun hg w h => by (try simp only [↓gval_on hg, ↓gval_and hg] at h); (have hg2 := hg; (try simp only [Bool.and_eq_true, Bool.or_eq_true, Bool.not_eq_true', decide_eq_true_eq, decide_eq_false_iff_not] at hg2)); first | exact r_move h rfl) rfl ?_) | (refine d_skipQ (listed' := #[true, true, true, true, true, true, true, true, true, false, false, true, true, false, false, false, false]) h hD 12 (by as_aux_lemma => kernel_rfl) rfl (by as_aux_lemma => kernel_rfl) (by as_aux_lemma => kernel_rfl) (by as_aux_lemma => kernel_rfl) (fun _ _ _ _ hh => hh) (by first | exact .t rfl | exact .f rfl | exact .gt rfl | exact .gf rfl) (by first | rfl | assumption | simpa | simpa [*]) rfl ?_)
         clear hD h a w; intro a w h hD
         first | (refine d_takeG (listed' := #[true, true, true, true, true, true, true, true, true, false, false, true, true, true, false, false, false]) h hD 13 _ (by as_aux_lemma => kernel_rfl) rfl (by as_aux_lemma => kernel_rfl) (by as_aux_lemma => kernel_rfl) (by as_aux_lemma => kernel_rfl) (fun _ _ _ _ hh => hh) h.2 (by first | exact .t rfl | exact .f rfl | exact .gt rfl | exact .gf rfl) (fun hg w hw => by (try simp only [↓gval_on hg, ↓gval_and hg] at h); (have hg2 := hg; (try simp only [Bool.and_eq_true, Bool.or_eq_true, Bool.not_eq_true', decide_eq_true_eq, decide_eq_false_iff_not] at hg2)); first | exact r_elP ⟨h.1, hw⟩ rfl rfl K.u_S_api_Key K.sz_api_Key (by first | exact Views.own 0 rfl | exact Views.own 1 rfl | exact Views.own 2 rfl | exact Views.own 3 rfl | exact Views.own 4 rfl | exact Views.own 5 rfl | assumption | exact Views.of_drop 1 (by assumption) | exact Views.of_drop 2 (by assumption) | exact Views.of_drop 3 (by assumption) | exact Views.of_drop 4 (by assumption) | exact Views.of_drop 5 (by assumption) | exact Views.of_drop 6 (by assumption) | exact Views.of_drop 7 (by assumption) | exact Views.of_drop 8 (by assumption) | exact Views.of_drop 9 (by assumption) | exact Views.of_drop 10 (by assumption) | exact Views.of_drop 11 (by assumption) | exact Views.of_drop 12 (by assumption)) (by first | omega | (simp; done)) (by first | omega | (simp only [List.length_cons, List.length_nil]; omega) | (simp; done) | (simp; omega))) rfl ?_) | (refine d_skipF (listed' := #[true, true, true, true, true, true, true, true, true, false, false, true, true, true, false, false, false]) h hD 13 (by as_aux_lemma => kernel_rfl) rfl (by as_aux_lemma => kernel_rfl) (by as_aux_lemma => kernel_rfl) (by as_aux_lemma => kernel_rfl) (fun _ _ _ _ hh => hh) (by first | exact .t rfl | exact .f rfl | exact .gt rfl | exact .gf rfl) (by first | rfl | assumption | simpa | simpa [*]) rfl ?_)
         clear hD h a w; intro a w h hD
         first | (refine d_takeG (listed' := #[true, true, true, true, true, true, true, true, true, false, false, true, true, true, true, false, false]) h hD 14 _ (by as_aux_lemma => kernel_rfl) rfl (by as_aux_lemma => kernel_rfl) (by as_aux_lemma => kernel_rfl) (by as_aux_lemma => kernel_rfl) (fun _ _ _ _ hh => hh) h.2 (by first | exact .t rfl | exact .f rfl | exact .gt rfl | exact .gf rfl) (fun hg w hw => by (try simp only [↓gval_on hg, ↓gval_and hg] at h); (have hg2 := hg; (try simp only [Bool.and_eq_true, Bool.or_eq_true, Bool.not_eq_true', decide_eq_true_eq, decide_eq_false_iff_not] at hg2)); first | exact r_elM ⟨h.1, hw⟩ rfl K.u_api_Key rfl K.sz_api_Key rfl (by first | exact Views.own 0 rfl | exact Views.own 1 rfl | exact Views.own 2 rfl | exact Views.own 3 rfl | exact Views.own 4 rfl | exact Views.own 5 rfl | assumption | exact Views.of_drop 1 (by assumption) | exact Views.of_drop 2 (by assumption) | exact Views.of_drop 3 (by assumption) | exact Views.of_drop 4 (by assumption) | exact Views.of_drop 5 (by assumption) | exact Views.of_drop 6 (by assumption) | exact Views.of_drop 7 (by assumption) | exact Views.of_drop 8 (by assumption) | exact Views.of_drop 9 (by assumption) | exact Views.of_drop 10 (by assumption) | exact Views.of_drop 11 (by assumption) | exact Views.of_drop 12 (by assumption)) (by assumption) | exact r_elMd ⟨h.1, hw⟩ rfl K.u_api_Key rfl K.sz_api_Key rfl (by first | exact Views.own 0 rfl | exact Views.own 1 rfl | exact Views.own 2 rfl | exact Views.own 3 rfl | exact Views.own 4 rfl | exact Views.own 5 rfl | assumption | exact Views.of_drop 1 (by assumption) | exact Views.of_drop 2 (by assumption) | exact Views.of_drop 3 (by assumption) | exact Views.of_drop 4 (by assumption) | exact Views.of_drop 5 (by assumption) | exact Views.of_drop 6 (by assumption) | exact Views.of_drop 7 (by assumption) | exact Views.of_drop 8 (by assumption) | exact Views.of_drop 9 (by assumption) | exact Views.of_drop 10 (by assumption) | exact Views.of_drop 11 (by assumption) | exact Views.of_drop 12 (by assumption)) (by first | omega | (simp only [List.length_cons, List.length_nil]; omega) | (simp; done) | (simp; omega))) rfl ?_) | (refine d_skipF (listed' := #[true, true, true, true, true, true, true, true, true, false, false, true, true, true, true, false, false]) h hD 14 (by as_aux_lemma => kernel_rfl) rfl (by as_aux_lemma => kernel_rfl) (by as_aux_lemma => kernel_rfl) (by as_aux_lemma => kernel_rfl) (fun _ _ _ _ hh => hh) (by first | exact .t rfl | exact .f rfl | exact .gt rfl | exact .gf rfl) (by first | rfl | assumption | simpa | simpa [*]) rfl ?_)
         clear hD h a w; intro a w h hD
         first
          | (refine d_skipG (listed' := #[true, true, true, true, true, true, true, true, true, true, false, true, true, true, true, false, false]) h hD 9 [true, true, false, true] (by as_aux_lemma => kernel_rfl) rfl (by first | exact .t rfl | exact .f rfl | exact .gt rfl | exact .gf rfl) (by first | rfl | assumption | simpa | simpa [*]) (by as_aux_lemma => kernel_rfl) (by as_aux_lemma => kernel_rfl) rfl ?_; clear hD h a w; intro a w h hD)
          | (
           refine d_onlyG (listed' := #[true, true, true, true, true, true, true, true, true, true, false, true, true, true, true, false, false]) h hD 9 [true, true, false, true] (by as_aux_lemma => kernel_rfl) rfl rfl (by first | exact .t rfl | exact .f rfl | exact .gt rfl | exact .gf rfl) (by as_aux_lemma => kernel_rfl) (by as_aux_lemma => kernel_rfl) (fun hg => ?_) (fun hg => by first | cases hg | (exact absurd hg (by decide)) | simpa using hg | simpa [*] using hg)
           refine op_build1 h K.u_S_api_Key K.sz_api_Key K.z_api_Key rfl rfl rfl (by first | exact Row.len _ | rfl | assumption | (simp; done) | (simp; omega) | omega) rfl ?_
           clear hD h a w; intro b65 a w h
           refine d_pay (Paid.cons (by first | exact h.2 | exact h.2.drop 1 | exact h.2.drop 2 | exact h.2.drop 3 | exact h.2.drop 4 | exact h.2.drop 5 | exact h.2.drop 6 | exact h.2.drop 7 | exact h.2.none) (Paid.cons (by first | exact h.2 | exact h.2.drop 1 | exact h.2.drop 2 | exact h.2.drop 3 | exact h.2.drop 4 | exact h.2.drop 5 | exact h.2.drop 6 | exact h.2.drop 7 | exact h.2.none) (Paid.cons (by first | exact h.2 | exact h.2.drop 1 | exact h.2.drop 2 | exact h.2.drop 3 | exact h.2.drop 4 | exact h.2.drop 5 | exact h.2.drop 6 | exact h.2.drop 7 | exact h.2.none) (Paid.nil)))) (fun hD => ?_))
         first
          | (refine d_skipG (listed' := #[true, true, true, true, true, true, true, true, true, true, true, true, true, true, true, false, false]) h hD 10 [true, true, true] (by as_aux_lemma => kernel_rfl) rfl (by first | exact .t rfl | exact .f rfl | exact .gt rfl | exact .gf rfl) (by first | rfl | assumption | simpa | simpa [*]) (by as_aux_lemma => kernel_rfl) (by as_aux_lemma => kernel_rfl) rfl ?_; clear hD h a w; intro a w h hD)
          | (
           refine d_onlyG (listed' := #[true, true, true, true, true, true, true, true, true, true, true, true, true, true, true, false, false]) h hD 10 [true, true, true] (by as_aux_lemma => kernel_rfl) rfl rfl (by first | exact .t rfl | exact .f rfl | exact .gt rfl | exact .gf rfl) (by as_aux_lemma => kernel_rfl) (by as_aux_lemma => kernel_rfl) (fun hg => ?_) (fun hg => by first | cases hg | (exact absurd hg (by decide)) | simpa using hg | simpa [*] using hg)
           refine op_call h rfl K.go_ref18_Book_All (book_All s _ b _ [z1] nv xs _ (one_view z1) (by simp) (by exact BookV.of_drop 4 hB) hl hp h.2) rfl ?_
           clear hD h a w; intro v66 a w hv66 h
           (try simp only [List.set_cons_zero, List.set_cons_succ] at h)
           try rw [← hrA] at h
           refine d_pay (Paid.cons (by first | exact h.2 | exact h.2.drop 1 | exact h.2.drop 2 | exact h.2.drop 3 | exact h.2.drop 4 | exact h.2.drop 5 | exact h.2.drop 6 | exact h.2.drop 7 | exact h.2.none) (Paid.cons (by first | exact h.2 | exact h.2.drop 1 | exact h.2.drop 2 | exact h.2.drop 3 | exact h.2.drop 4 | exact h.2.drop 5 | exact h.2.drop 6 | exact h.2.drop 7 | exact h.2.none) (Paid.cons (by first | exact h.2 | exact h.2.drop 1 | exact h.2.drop 2 | exact h.2.drop 3 | exact h.2.drop 4 | exact h.2.drop 5 | exact h.2.drop 6 | exact h.2.drop 7 | exact h.2.none) (Paid.nil)))) (fun hD => ?_))
         first
          | (refine d_skipG (listed' := #[true, true, true, true, true, true, true, true, true, true, true, true, true, true, true, true, false]) h hD 15 [false, true, true] (by as_aux_lemma => kernel_rfl) rfl (by first | exact .t rfl | exact .f rfl | exact .gt rfl | exact .gf rfl) (by first | rfl | assumption | simpa | simpa [*]) (by as_aux_lemma => kernel_rfl) (by as_aux_lemma => kernel_rfl) rfl ?_; clear hD h a w; intro a w h hD)
          | (
           refine d_onlyG (listed' := #[true, true, true, true, true, true, true, true, true, true, true, true, true, true, true, true, false]) h hD 15 [false, true, true] (by as_aux_lemma => kernel_rfl) rfl rfl (by first | exact .t rfl | exact .f rfl | exact .gt rfl | exact .gf rfl) (by as_aux_lemma => kernel_rfl) (by as_aux_lemma => kernel_rfl) (fun hg => ?_) (fun hg => by first | cases hg | (exact absurd hg (by decide)) | simpa using hg | simpa [*] using hg)
           refine op_call h rfl K.go_ref18_has (ref_has s _ v66 (rA z1) y1 _ (Views.own 0 rfl) (by have := hrl z1; omega) h.2) rfl ?_
           clear hD h a w; intro z a w hz2 h
           (try simp only [List.set_cons_zero, List.set_cons_succ] at h)
           refine d_pay (Paid.cons (by first | exact h.2 | exact h.2.drop 1 | exact h.2.drop 2 | exact h.2.drop 3 | exact h.2.drop 4 | exact h.2.drop 5 | exact h.2.drop 6 | exact h.2.drop 7 | exact h.2.none) (Paid.cons (by first | exact h.2 | exact h.2.drop 1 | exact h.2.drop 2 | exact h.2.drop 3 | exact h.2.drop 4 | exact h.2.drop 5 | exact h.2.drop 6 | exact h.2.drop 7 | exact h.2.none) (Paid.nil))) (fun hD => ?_))
         refine d_take0 (listed' := #[true, true, true, true, true, true, true, true, true, true, true, true, true, true, true, true, true]) h hD 16 (by as_aux_lemma => kernel_rfl) rfl (by as_aux_lemma => kernel_rfl) (by as_aux_lemma => kernel_rfl) (by as_aux_lemma => kernel_rfl) (fun _ _ _ _ hh => hh) (fun w h => by first | exact r_pickA h rfl rfl rfl | exact r_pickO h rfl rfl rfl | exact r_pick_true h rfl rfl | exact r_pick_false h rfl rfl | exact r_pick h rfl rfl rfl) rfl ?_
         clear hD h a w; intro a w h hD
         refine d_done (by kernel_rfl) ?_
         clear hD
         refine c_then ?_
         refine c_false h rfl ?_
         refine c_skip ?_
         refine b_normal ?_
         refine c_then ?_
         refine c_region ?_
         refine wv h (r_move h rfl) rfl ?_
         clear h a w; intro a w h
         refine wv h (r_bin h rfl rfl (B.add_i64 (by omega) (by omega))) rfl ?_
         clear h a w; intro a w h
         refine wv h (r_assign h rfl) rfl ?_
         clear h a w; intro a w h
         refine wnil ?_
         have hki : k = i := by have := of_decide_eq_false hgk; omega
         rw [if_neg (fun q => q.1 hki)] at h4
         exact ⟨(k + 1, top), h.keep [0, 6, 10, 12, 13, 14, 15, 16], ⟨hklt, h4⟩, by show both.length - (k + 1) < both.length - k; omega⟩
        ·
         refine c_seq (c_drawn 17 K.mixed rfl h ?_)
         clear h a w; intro a w h
         have hD : Paid s w [] := Paid.nil
         refine d_take0 (listed' := #[true, false, false, false, false, false, false, false, false, false, false, false, false, false, false, false, false]) h hD 0 (by as_aux_lemma => kernel_rfl) rfl (by as_aux_lemma => kernel_rfl) (by as_aux_lemma => kernel_rfl) (by as_aux_lemma => kernel_rfl) (fun _ _ _ _ hh => hh) (fun w h => by first | exact r_move h rfl) rfl ?_
         clear hD h a w; intro a w h hD
         refine d_take0 (listed' := #[true, true, false, false, false, false, false, false, false, false, false, false, false, false, false, false, false]) h hD 1 (by as_aux_lemma => kernel_rfl) rfl (by as_aux_lemma => kernel_rfl) (by as_aux_lemma => kernel_rfl) (by as_aux_lemma => kernel_rfl) (fun _ _ _ _ hh => hh) (fun w h => by first | exact r_move h rfl) rfl ?_
         clear hD h a w; intro a w h hD
         refine d_take0 (listed' := #[true, true, true, false, false, false, false, false, false, false, false, false, false, false, false, false, false]) h hD 2 (by as_aux_lemma => kernel_rfl) rfl (by as_aux_lemma => kernel_rfl) (by as_aux_lemma => kernel_rfl) (by as_aux_lemma => kernel_rfl) (fun _ _ _ _ hh => hh) (fun w h => by first | exact r_bin h rfl rfl (B.neq_int)) rfl ?_
         clear hD h a w; intro a w h hD
         rw [hgk] at h
         refine d_take0 (listed' := #[true, true, true, true, false, false, false, false, false, false, false, false, false, false, false, false, false]) h hD 3 (by as_aux_lemma => kernel_rfl) rfl (by as_aux_lemma => kernel_rfl) (by as_aux_lemma => kernel_rfl) (by as_aux_lemma => kernel_rfl) (fun _ _ _ _ hh => hh) (fun w h => by first | exact r_move h rfl) rfl ?_
         clear hD h a w; intro a w h hD
         first | (refine d_take0G (listed' := #[true, true, true, true, true, false, false, false, false, false, false, false, false, false, false, false, false]) h hD 4 (by as_aux_lemma => kernel_rfl) rfl (by as_aux_lemma => kernel_rfl) (by as_aux_lemma => kernel_rfl) (by as_aux_lemma => kernel_rfl) (fun _ _ _ _ hh => hh) (by first | exact .t rfl | exact .f rfl | exact .gt rfl | exact .gf rfl) (fun hg w h => by (try simp only [↓gval_on hg, ↓gval_and hg] at h); (have hg2 := hg; (try simp only [Bool.and_eq_true, Bool.or_eq_true, Bool.not_eq_true', decide_eq_true_eq, decide_eq_false_iff_not] at hg2)); first | exact r_move h rfl) rfl ?_) | (refine d_skipQ (listed' := #[true, true, true, true, true, false, false, false, false, false, false, false, false, false, false, false, false]) h hD 4 (by as_aux_lemma => kernel_rfl) rfl (by as_aux_lemma => kernel_rfl) (by as_aux_lemma => kernel_rfl) (by as_aux_lemma => kernel_rfl) (fun _ _ _ _ hh => hh) (by first | exact .t rfl | exact .f rfl | exact .gt rfl | exact .gf rfl) (by first | rfl | assumption | simpa | simpa [*]) rfl ?_)
         clear hD h a w; intro a w h hD
         first | (refine d_take0G (listed' := #[true, true, true, true, true, true, false, false, false, false, false, false, false, false, false, false, false]) h hD 5 (by as_aux_lemma => kernel_rfl) rfl (by as_aux_lemma => kernel_rfl) (by as_aux_lemma => kernel_rfl) (by as_aux_lemma => kernel_rfl) (fun _ _ _ _ hh => hh) (by first | exact .t rfl | exact .f rfl | exact .gt rfl | exact .gf rfl) (fun hg w h => by (try simp only [↓gval_on hg, ↓gval_and hg] at h); (have hg2 := hg; (try simp only [Bool.and_eq_true, Bool.or_eq_true, Bool.not_eq_true', decide_eq_true_eq, decide_eq_false_iff_not] at hg2)); first | exact r_move h rfl) rfl ?_) | (refine d_skipQ (listed' := #[true, true, true, true, true, true, false, false, false, false, false, false, false, false, false, false, false]) h hD 5 (by as_aux_lemma => kernel_rfl) rfl (by as_aux_lemma => kernel_rfl) (by as_aux_lemma => kernel_rfl) (by as_aux_lemma => kernel_rfl) (fun _ _ _ _ hh => hh) (by first | exact .t rfl | exact .f rfl | exact .gt rfl | exact .gf rfl) (by first | rfl | assumption | simpa | simpa [*]) rfl ?_)
         clear hD h a w; intro a w h hD
         first | (refine d_take0G (listed' := #[true, true, true, true, true, true, true, false, false, false, false, false, false, false, false, false, false]) h hD 6 (by as_aux_lemma => kernel_rfl) rfl (by as_aux_lemma => kernel_rfl) (by as_aux_lemma => kernel_rfl) (by as_aux_lemma => kernel_rfl) (fun _ _ _ _ hh => hh) (by first | exact .t rfl | exact .f rfl | exact .gt rfl | exact .gf rfl) (fun hg w h => by (try simp only [↓gval_on hg, ↓gval_and hg] at h); (have hg2 := hg; (try simp only [Bool.and_eq_true, Bool.or_eq_true, Bool.not_eq_true', decide_eq_true_eq, decide_eq_false_iff_not] at hg2)); first | exact r_move h rfl) rfl ?_) | (refine d_skipQ (listed' := #[true, true, true, true, true, true, true, false, false, false, false, false, false, false, false, false, false]) h hD 6 (by as_aux_lemma => kernel_rfl) rfl (by as_aux_lemma => kernel_rfl) (by as_aux_lemma => kernel_rfl) (by as_aux_lemma => kernel_rfl) (fun _ _ _ _ hh => hh) (by first | exact .t rfl | exact .f rfl | exact .gt rfl | exact .gf rfl) (by first | rfl | assumption | simpa | simpa [*]) rfl ?_)
         clear hD h a w; intro a w h hD
         first | (refine d_takeG (listed' := #[true, true, true, true, true, true, true, true, false, false, false, false, false, false, false, false, false]) h hD 7 _ (by as_aux_lemma => kernel_rfl) rfl (by as_aux_lemma => kernel_rfl) (by as_aux_lemma => kernel_rfl) (by as_aux_lemma => kernel_rfl) (fun _ _ _ _ hh => hh) h.2 (by first | exact .t rfl | exact .f rfl | exact .gt rfl | exact .gf rfl) (fun hg w hw => by (try simp only [↓gval_on hg, ↓gval_and hg] at h); (have hg2 := hg; (try simp only [Bool.and_eq_true, Bool.or_eq_true, Bool.not_eq_true', decide_eq_true_eq, decide_eq_false_iff_not] at hg2)); first | exact r_elP ⟨h.1, hw⟩ rfl rfl K.u_S_api_Key K.sz_api_Key (by first | exact Views.own 0 rfl | exact Views.own 1 rfl | exact Views.own 2 rfl | exact Views.own 3 rfl | exact Views.own 4 rfl | exact Views.own 5 rfl | assumption | exact Views.of_drop 1 (by assumption) | exact Views.of_drop 2 (by assumption) | exact Views.of_drop 3 (by assumption) | exact Views.of_drop 4 (by assumption) | exact Views.of_drop 5 (by assumption) | exact Views.of_drop 6 (by assumption) | exact Views.of_drop 7 (by assumption) | exact Views.of_drop 8 (by assumption) | exact Views.of_drop 9 (by assumption) | exact Views.of_drop 10 (by assumption) | exact Views.of_drop 11 (by assumption) | exact Views.of_drop 12 (by assumption)) (by first | omega | (simp; done)) (by first | omega | (simp only [List.length_cons, List.length_nil]; omega) | (simp; done) | (simp; omega))) rfl ?_) | (refine d_skipF (listed' := #[true, true, true, true, true, true, true, true, false, false, false, false, false, false, false, false, false]) h hD 7 (by as_aux_lemma => kernel_rfl) rfl (by as_aux_lemma => kernel_rfl) (by as_aux_lemma => kernel_rfl) (by as_aux_lemma => kernel_rfl) (fun _ _ _ _ hh => hh) (by first | exact .t rfl | exact .f rfl | exact .gt rfl | exact .gf rfl) (by first | rfl | assumption | simpa | simpa [*]) rfl ?_)
         clear hD h a w; intro a w h hD
         first | (refine d_takeG (listed' := #[true, true, true, true, true, true, true, true, true, false, false, false, false, false, false, false, false]) h hD 8 _ (by as_aux_lemma => kernel_rfl) rfl (by as_aux_lemma => kernel_rfl) (by as_aux_lemma => kernel_rfl) (by as_aux_lemma => kernel_rfl) (fun _ _ _ _ hh => hh) h.2 (by first | exact .t rfl | exact .f rfl | exact .gt rfl | exact .gf rfl) (fun hg w hw => by (try simp only [↓gval_on hg, ↓gval_and hg] at h); (have hg2 := hg; (try simp only [Bool.and_eq_true, Bool.or_eq_true, Bool.not_eq_true', decide_eq_true_eq, decide_eq_false_iff_not] at hg2)); first | exact r_elM ⟨h.1, hw⟩ rfl K.u_api_Key rfl K.sz_api_Key rfl (by first | exact Views.own 0 rfl | exact Views.own 1 rfl | exact Views.own 2 rfl | exact Views.own 3 rfl | exact Views.own 4 rfl | exact Views.own 5 rfl | assumption | exact Views.of_drop 1 (by assumption) | exact Views.of_drop 2 (by assumption) | exact Views.of_drop 3 (by assumption) | exact Views.of_drop 4 (by assumption) | exact Views.of_drop 5 (by assumption) | exact Views.of_drop 6 (by assumption) | exact Views.of_drop 7 (by assumption) | exact Views.of_drop 8 (by assumption) | exact Views.of_drop 9 (by assumption) | exact Views.of_drop 10 (by assumption) | exact Views.of_drop 11 (by assumption) | exact Views.of_drop 12 (by assumption)) (by assumption) | exact r_elMd ⟨h.1, hw⟩ rfl K.u_api_Key rfl K.sz_api_Key rfl (by first | exact Views.own 0 rfl | exact Views.own 1 rfl | exact Views.own 2 rfl | exact Views.own 3 rfl | exact Views.own 4 rfl | exact Views.own 5 rfl | assumption | exact Views.of_drop 1 (by assumption) | exact Views.of_drop 2 (by assumption) | exact Views.of_drop 3 (by assumption) | exact Views.of_drop 4 (by assumption) | exact Views.of_drop 5 (by assumption) | exact Views.of_drop 6 (by assumption) | exact Views.of_drop 7 (by assumption) | exact Views.of_drop 8 (by assumption) | exact Views.of_drop 9 (by assumption) | exact Views.of_drop 10 (by assumption) | exact Views.of_drop 11 (by assumption) | exact Views.of_drop 12 (by assumption)) (by first | omega | (simp only [List.length_cons, List.length_nil]; omega) | (simp; done) | (simp; omega))) rfl ?_) | (refine d_skipF (listed' := #[true, true, true, true, true, true, true, true, true, false, false, false, false, false, false, false, false]) h hD 8 (by as_aux_lemma => kernel_rfl) rfl (by as_aux_lemma => kernel_rfl) (by as_aux_lemma => kernel_rfl) (by as_aux_lemma => kernel_rfl) (fun _ _ _ _ hh => hh) (by first | exact .t rfl | exact .f rfl | exact .gt rfl | exact .gf rfl) (by first | rfl | assumption | simpa | simpa [*]) rfl ?_)
         clear hD h a w; intro a w h hD
         first | (refine d_take0G (listed' := #[true, true, true, true, true, true, true, true, true, false, false, true, false, false, false, false, false]) h hD 11 (by as_aux_lemma => kernel_rfl) rfl (by as_aux_lemma => kernel_rfl) (by as_aux_lemma => kernel_rfl) (by as_aux_lemma => kernel_rfl) (fun _ _ _ _ hh => hh) (by first | exact .t rfl | exact .f rfl | exact .gt rfl | exact .gf rfl) (fun hg w h => by (try simp only [↓gval_on hg, ↓gval_and hg] at h); (have hg2 := hg; (try simp only [Bool.and_eq_true, Bool.or_eq_true, Bool.not_eq_true', decide_eq_true_eq, decide_eq_false_iff_not] at hg2)); first | exact r_move h rfl) rfl ?_) | (refine d_skipQ (listed' := #[true, true, true, true, true, true, true, true, true, false, false, true, false, false, false, false, false]) h hD 11 (by as_aux_lemma => kernel_rfl) rfl (by as_aux_lemma => kernel_rfl) (by as_aux_lemma => kernel_rfl) (by as_aux_lemma => kernel_rfl) (fun _ _ _ _ hh => hh) (by first | exact .t rfl | exact .f rfl | exact .gt rfl | exact .gf rfl) (by first | rfl | assumption | simpa | simpa [*]) rfl ?_)
         clear hD h a w; intro a w h hD
         first | (refine d_take0G (listed' := #[true, true, true, true, true, true, true, true, true, false, false, true, true, false, false, false, false]) h hD 12 (by as_aux_lemma => kernel_rfl) rfl (by as_aux_lemma => kernel_rfl) (by as_aux_lemma => kernel_rfl) (by as_aux_lemma => kernel_rfl) (fun _ _ _ _ hh => hh) (by first | exact .t rfl | exact .f rfl | exact .gt rfl | exact .gf rfl) (fun hg w h => by (try simp only [↓gval_on hg, ↓gval_and hg] at h); (have hg2 := hg; (try simp only [Bool.and_eq_true, Bool.or_eq_true, Bool.not_eq_true', decide_eq_true_eq, decide_eq_false_iff_not] at hg2)); first | exact r_move h rfl) rfl ?_) | (refine d_skipQ (listed' := #[true, true, true, true, true, true, true, true, true, false, false, true, true, false, false, false, false]) h hD 12 (by as_aux_lemma => kernel_rfl) rfl (by as_aux_lemma => kernel_rfl) (by as_aux_lemma => kernel_rfl) (by as_aux_lemma => kernel_rfl) (fun _ _ _ _ hh => hh) (by first | exact .t rfl | exact .f rfl | exact .gt rfl | exact .gf rfl) (by first | rfl | assumption | simpa | simpa [*]) rfl ?_)
         clear hD h a w; intro a w h hD
         first | (refine d_takeG (listed' := #[true, true, true, true, true, true, true, true, true, false, false, true, true, true, false, false, false]) h hD 13 _ (by as_aux_lemma => kernel_rfl) rfl (by as_aux_lemma => kernel_rfl) (by as_aux_lemma => kernel_rfl) (by as_aux_lemma => kernel_rfl) (fun _ _ _ _ hh => hh) h.2 (by first | exact .t rfl | exact .f rfl | exact .gt rfl | exact .gf rfl) (fun hg w hw => by (try simp only [↓gval_on hg, ↓gval_and hg] at h); (have hg2 := hg; (try simp only [Bool.and_eq_true, Bool.or_eq_true, Bool.not_eq_true', decide_eq_true_eq, decide_eq_false_iff_not] at hg2)); first | exact r_elP ⟨h.1, hw⟩ rfl rfl K.u_S_api_Key K.sz_api_Key (by first | exact Views.own 0 rfl | exact Views.own 1 rfl | exact Views.own 2 rfl | exact Views.own 3 rfl | exact Views.own 4 rfl | exact Views.own 5 rfl | assumption | exact Views.of_drop 1 (by assumption) | exact Views.of_drop 2 (by assumption) | exact Views.of_drop 3 (by assumption) | exact Views.of_drop 4 (by assumption) | exact Views.of_drop 5 (by assumption) | exact Views.of_drop 6 (by assumption) | exact Views.of_drop 7 (by assumption) | exact Views.of_drop 8 (by assumption) | exact Views.of_drop 9 (by assumption) | exact Views.of_drop 10 (by assumption) | exact Views.of_drop 11 (by assumption) | exact Views.of_drop 12 (by assumption)) (by first | omega | (simp; done)) (by first | omega | (simp only [List.length_cons, List.length_nil]; omega) | (simp; done) | (simp; omega))) rfl ?_) | (refine d_skipF (listed' := #[true, true, true, true, true, true, true, true, true, false, false, true, true, true, false, false, false]) h hD 13 (by as_aux_lemma => kernel_rfl) rfl (by as_aux_lemma => kernel_rfl) (by as_aux_lemma => kernel_rfl) (by as_aux_lemma => kernel_rfl) (fun _ _ _ _ hh => hh) (by first | exact .t rfl | exact .f rfl | exact .gt rfl | exact .gf rfl) (by first | rfl | assumption | simpa | simpa [*]) rfl ?_)
         clear hD h a w; intro a w h hD
         first | (refine d_takeG (listed' := #[true, true, true, true, true, true, true, true, true, false, false, true, true, true, true, false, false]) h hD 14 _ (by as_aux_lemma => kernel_rfl) rfl (by as_aux_lemma => kernel_rfl) (by as_aux_lemma => kernel_rfl) (by as_aux_lemma => kernel_rfl) (fun _ _ _ _ hh => hh) h.2 (by first | exact .t rfl | exact .f rfl | exact .gt rfl | exact .gf rfl) (fun hg w hw => by (try simp only [↓gval_on hg, ↓gval_and hg] at h); (have hg2 := hg; (try simp only [Bool.and_eq_true, Bool.or_eq_true, Bool.not_eq_true', decide_eq_true_eq, decide_eq_false_iff_not] at hg2)); first | exact r_elM ⟨h.1, hw⟩ rfl K.u_api_Key rfl K.sz_api_Key rfl (by first | exact Views.own 0 rfl | exact Views.own 1 rfl | exact Views.own 2 rfl | exact Views.own 3 rfl | exact Views.own 4 rfl | exact Views.own 5 rfl | assumption | exact Views.of_drop 1 (by assumption) | exact Views.of_drop 2 (by assumption) | exact Views.of_drop 3 (by assumption) | exact Views.of_drop 4 (by assumption) | exact Views.of_drop 5 (by assumption) | exact Views.of_drop 6 (by assumption) | exact Views.of_drop 7 (by assumption) | exact Views.of_drop 8 (by assumption) | exact Views.of_drop 9 (by assumption) | exact Views.of_drop 10 (by assumption) | exact Views.of_drop 11 (by assumption) | exact Views.of_drop 12 (by assumption)) (by assumption) | exact r_elMd ⟨h.1, hw⟩ rfl K.u_api_Key rfl K.sz_api_Key rfl (by first | exact Views.own 0 rfl | exact Views.own 1 rfl | exact Views.own 2 rfl | exact Views.own 3 rfl | exact Views.own 4 rfl | exact Views.own 5 rfl | assumption | exact Views.of_drop 1 (by assumption) | exact Views.of_drop 2 (by assumption) | exact Views.of_drop 3 (by assumption) | exact Views.of_drop 4 (by assumption) | exact Views.of_drop 5 (by assumption) | exact Views.of_drop 6 (by assumption) | exact Views.of_drop 7 (by assumption) | exact Views.of_drop 8 (by assumption) | exact Views.of_drop 9 (by assumption) | exact Views.of_drop 10 (by assumption) | exact Views.of_drop 11 (by assumption) | exact Views.of_drop 12 (by assumption)) (by first | omega | (simp only [List.length_cons, List.length_nil]; omega) | (simp; done) | (simp; omega))) rfl ?_) | (refine d_skipF (listed' := #[true, true, true, true, true, true, true, true, true, false, false, true, true, true, true, false, false]) h hD 14 (by as_aux_lemma => kernel_rfl) rfl (by as_aux_lemma => kernel_rfl) (by as_aux_lemma => kernel_rfl) (by as_aux_lemma => kernel_rfl) (fun _ _ _ _ hh => hh) (by first | exact .t rfl | exact .f rfl | exact .gt rfl | exact .gf rfl) (by first | rfl | assumption | simpa | simpa [*]) rfl ?_)
         clear hD h a w; intro a w h hD
         first
          | (refine d_skipG (listed' := #[true, true, true, true, true, true, true, true, true, true, false, true, true, true, true, false, false]) h hD 9 [true, true, false, true] (by as_aux_lemma => kernel_rfl) rfl (by first | exact .t rfl | exact .f rfl | exact .gt rfl | exact .gf rfl) (by first | rfl | assumption | simpa | simpa [*]) (by as_aux_lemma => kernel_rfl) (by as_aux_lemma => kernel_rfl) rfl ?_; clear hD h a w; intro a w h hD)
          | (
           refine d_onlyG (listed' := #[true, true, true, true, true, true, true, true, true, true, false, true, true, true, true, false, false]) h hD 9 [true, true, false, true] (by as_aux_lemma => kernel_rfl) rfl rfl (by first | exact .t rfl | exact .f rfl | exact .gt rfl | exact .gf rfl) (by as_aux_lemma => kernel_rfl) (by as_aux_lemma => kernel_rfl) (fun hg => ?_) (fun hg => by first | cases hg | (exact absurd hg (by decide)) | simpa using hg | simpa [*] using hg)
           refine op_build1 h K.u_S_api_Key K.sz_api_Key K.z_api_Key rfl rfl rfl (by first | exact Row.len _ | rfl | assumption | (simp; done) | (simp; omega) | omega) rfl ?_
           clear hD h a w; intro b65 a w h
           refine d_pay (Paid.cons (by first | exact h.2 | exact h.2.drop 1 | exact h.2.drop 2 | exact h.2.drop 3 | exact h.2.drop 4 | exact h.2.drop 5 | exact h.2.drop 6 | exact h.2.drop 7 | exact h.2.none) (Paid.cons (by first | exact h.2 | exact h.2.drop 1 | exact h.2.drop 2 | exact h.2.drop 3 | exact h.2.drop 4 | exact h.2.drop 5 | exact h.2.drop 6 | exact h.2.drop 7 | exact h.2.none) (Paid.cons (by first | exact h.2 | exact h.2.drop 1 | exact h.2.drop 2 | exact h.2.drop 3 | exact h.2.drop 4 | exact h.2.drop 5 | exact h.2.drop 6 | exact h.2.drop 7 | exact h.2.none) (Paid.nil)))) (fun hD => ?_))
         first
          | (refine d_skipG (listed' := #[true, true, true, true, true, true, true, true, true, true, true, true, true, true, true, false, false]) h hD 10 [true, true, true] (by as_aux_lemma => kernel_rfl) rfl (by first | exact .t rfl | exact .f rfl | exact .gt rfl | exact .gf rfl) (by first | rfl | assumption | simpa | simpa [*]) (by as_aux_lemma => kernel_rfl) (by as_aux_lemma => kernel_rfl) rfl ?_; clear hD h a w; intro a w h hD)
          | (
           refine d_onlyG (listed' := #[true, true, true, true, true, true, true, true, true, true, true, true, true, true, true, false, false]) h hD 10 [true, true, true] (by as_aux_lemma => kernel_rfl) rfl rfl (by first | exact .t rfl | exact .f rfl | exact .gt rfl | exact .gf rfl) (by as_aux_lemma => kernel_rfl) (by as_aux_lemma => kernel_rfl) (fun hg => ?_) (fun hg => by first | cases hg | (exact absurd hg (by decide)) | simpa using hg | simpa [*] using hg)
           refine op_call h rfl K.go_ref18_Book_All (book_All s _ b _ [z1] nv xs _ (one_view z1) (by simp) (by exact BookV.of_drop 4 hB) hl hp h.2) rfl ?_
           clear hD h a w; intro v66 a w hv66 h
           (try simp only [List.set_cons_zero, List.set_cons_succ] at h)
           try rw [← hrA] at h
           refine d_pay (Paid.cons (by first | exact h.2 | exact h.2.drop 1 | exact h.2.drop 2 | exact h.2.drop 3 | exact h.2.drop 4 | exact h.2.drop 5 | exact h.2.drop 6 | exact h.2.drop 7 | exact h.2.none) (Paid.cons (by first | exact h.2 | exact h.2.drop 1 | exact h.2.drop 2 | exact h.2.drop 3 | exact h.2.drop 4 | exact h.2.drop 5 | exact h.2.drop 6 | exact h.2.drop 7 | exact h.2.none) (Paid.cons (by first | exact h.2 | exact h.2.drop 1 | exact h.2.drop 2 | exact h.2.drop 3 | exact h.2.drop 4 | exact h.2.drop 5 | exact h.2.drop 6 | exact h.2.drop 7 | exact h.2.none) (Paid.nil)))) (fun hD => ?_))
         first
          | (refine d_skipG (listed' := #[true, true, true, true, true, true, true, true, true, true, true, true, true, true, true, true, false]) h hD 15 [false, true, true] (by as_aux_lemma => kernel_rfl) rfl (by first | exact .t rfl | exact .f rfl | exact .gt rfl | exact .gf rfl) (by first | rfl | assumption | simpa | simpa [*]) (by as_aux_lemma => kernel_rfl) (by as_aux_lemma => kernel_rfl) rfl ?_; clear hD h a w; intro a w h hD)
          | (
           refine d_onlyG (listed' := #[true, true, true, true, true, true, true, true, true, true, true, true, true, true, true, true, false]) h hD 15 [false, true, true] (by as_aux_lemma => kernel_rfl) rfl rfl (by first | exact .t rfl | exact .f rfl | exact .gt rfl | exact .gf rfl) (by as_aux_lemma => kernel_rfl) (by as_aux_lemma => kernel_rfl) (fun hg => ?_) (fun hg => by first | cases hg | (exact absurd hg (by decide)) | simpa using hg | simpa [*] using hg)
           refine op_call h rfl K.go_ref18_has (ref_has s _ v66 (rA z1) y1 _ (Views.own 0 rfl) (by have := hrl z1; omega) h.2) rfl ?_
           clear hD h a w; intro z a w hz2 h
           (try simp only [List.set_cons_zero, List.set_cons_succ] at h)
           refine d_pay (Paid.cons (by first | exact h.2 | exact h.2.drop 1 | exact h.2.drop 2 | exact h.2.drop 3 | exact h.2.drop 4 | exact h.2.drop 5 | exact h.2.drop 6 | exact h.2.drop 7 | exact h.2.none) (Paid.cons (by first | exact h.2 | exact h.2.drop 1 | exact h.2.drop 2 | exact h.2.drop 3 | exact h.2.drop 4 | exact h.2.drop 5 | exact h.2.drop 6 | exact h.2.drop 7 | exact h.2.none) (Paid.nil))) (fun hD => ?_))
         refine d_take0 (listed' := #[true, true, true, true, true, true, true, true, true, true, true, true, true, true, true, true, true]) h hD 16 (by as_aux_lemma => kernel_rfl) rfl (by as_aux_lemma => kernel_rfl) (by as_aux_lemma => kernel_rfl) (by as_aux_lemma => kernel_rfl) (fun _ _ _ _ hh => hh) (fun w h => by first | exact r_pickA h rfl rfl rfl | exact r_pickO h rfl rfl rfl | exact r_pick_true h rfl rfl | exact r_pick_false h rfl rfl | exact r_pick h rfl rfl rfl) rfl ?_
         clear hD h a w; intro a w h hD
         refine d_done (by kernel_rfl) ?_
         clear hD
         refine c_then ?_
         refine c_condP (p := y1 ∈ rA z1) h rfl (by simp) (fun ht6 => ?_) (fun ht6 => ?_)
         ·
          as_aux_lemma =>
           refine c_region ?_
           refine wv h (r_assign h rfl) rfl ?_
           clear h a w; intro a w h
           refine wnil ?_
           refine b_normal ?_
           refine c_then ?_
           refine c_region ?_
           refine wv h (r_move h rfl) rfl ?_
           clear h a w; intro a w h
           refine wv h (r_bin h rfl rfl (B.add_i64 (by omega) (by omega))) rfl ?_
           clear h a w; intro a w h
           refine wv h (r_assign h rfl) rfl ?_
           clear h a w; intro a w h
           refine wnil ?_
           have hki : k ≠ i := by have := of_decide_eq_true hgk; omega
           rw [if_pos ⟨hki, ht6⟩] at h4
           exact ⟨(k + 1, false), (h.keep [0, 6, 10, 12, 13, 14, 15, 16]).drop 2, ⟨hklt, h4⟩, by show both.length - (k + 1) < both.length - k; omega⟩
         ·
          refine c_skip ?_
          refine b_normal ?_
          refine c_then ?_
          refine c_region ?_
          refine wv h (r_move h rfl) rfl ?_
          clear h a w; intro a w h
          refine wv h (r_bin h rfl rfl (B.add_i64 (by omega) (by omega))) rfl ?_
          clear h a w; intro a w h
          refine wv h (r_assign h rfl) rfl ?_
          clear h a w; intro a w h
          refine wnil ?_
          rw [if_neg (fun q => ht6 q.2)] at h4
          exact ⟨(k + 1, top), (h.keep [0, 6, 10, 12, 13, 14, 15, 16]).drop 2, ⟨hklt, h4⟩, by show both.length - (k + 1) < both.length - k; omega⟩
       ·
        have htop : topG rA y1 i both 0 true = top := by rw [h4, List.drop_eq_nil_of_le (by omega), topG]
        rw [htop] at h2
        refine c_exit ?_
        refine e_then ?_
        refine e_then ?_
        refine e_here ?_
        refine c_then ?_
        refine c_seq (c_draw K.mixed (by kernel_rfl) h ?_)
        clear h a w; intro a hE
        refine qv hE (fun w hw => r_move ⟨hE, hw⟩ rfl) rfl ?_
        clear hE a; intro a hE
        refine qv hE (fun w hw => r_move ⟨hE, hw⟩ rfl) rfl ?_
        clear hE a; intro a hE
        refine qvG hE (by first | exact .t rfl | exact .f rfl | exact .gt rfl | exact .gf rfl) (fun hg w hw => by (try simp only [↓gval_on hg, ↓gval_and hg] at hE); (have hg2 := hg; (try simp only [Bool.and_eq_true, Bool.or_eq_true, Bool.not_eq_true', decide_eq_true_eq, decide_eq_false_iff_not] at hg2)); first | exact r_move ⟨hE, hw⟩ rfl) rfl ?_
        clear hE a; intro a hE
        refine qvG hE (by first | exact .t rfl | exact .f rfl | exact .gt rfl | exact .gf rfl) (fun hg w hw => by (try simp only [↓gval_on hg, ↓gval_and hg] at hE); (have hg2 := hg; (try simp only [Bool.and_eq_true, Bool.or_eq_true, Bool.not_eq_true', decide_eq_true_eq, decide_eq_false_iff_not] at hg2)); first | exact r_not ⟨hE, hw⟩ rfl) rfl ?_
        clear hE a; intro a hE
        refine qvG hE (by first | exact .t rfl | exact .f rfl | exact .gt rfl | exact .gf rfl) (fun hg w hw => by (try simp only [↓gval_on hg, ↓gval_and hg] at hE); (have hg2 := hg; (try simp only [Bool.and_eq_true, Bool.or_eq_true, Bool.not_eq_true', decide_eq_true_eq, decide_eq_false_iff_not] at hg2)); first | exact r_move ⟨hE, hw⟩ rfl) rfl ?_
        clear hE a; intro a hE
        refine qvG hE (by first | exact .t rfl | exact .f rfl | exact .gt rfl | exact .gf rfl) (fun hg w hw => by (try simp only [↓gval_on hg, ↓gval_and hg] at hE); (have hg2 := hg; (try simp only [Bool.and_eq_true, Bool.or_eq_true, Bool.not_eq_true', decide_eq_true_eq, decide_eq_false_iff_not] at hg2)); first | exact r_move ⟨hE, hw⟩ rfl) rfl ?_
        clear hE a; intro a hE
        refine qvG hE (by first | exact .t rfl | exact .f rfl | exact .gt rfl | exact .gf rfl) (fun hg w hw => by (try simp only [↓gval_on hg, ↓gval_and hg] at hE); (have hg2 := hg; (try simp only [Bool.and_eq_true, Bool.or_eq_true, Bool.not_eq_true', decide_eq_true_eq, decide_eq_false_iff_not] at hg2)); first | exact r_move ⟨hE, hw⟩ rfl) rfl ?_
        clear hE a; intro a hE
        refine qvG hE (by first | exact .t rfl | exact .f rfl | exact .gt rfl | exact .gf rfl) (fun hg w hw => by (try simp only [↓gval_on hg, ↓gval_and hg] at hE); (have hg2 := hg; (try simp only [Bool.and_eq_true, Bool.or_eq_true, Bool.not_eq_true', decide_eq_true_eq, decide_eq_false_iff_not] at hg2)); first | exact r_elP ⟨hE, hw⟩ rfl rfl K.u_S_api_Key K.sz_api_Key (by first | exact Views.own 0 rfl | exact Views.own 1 rfl | exact Views.own 2 rfl | exact Views.own 3 rfl | exact Views.own 4 rfl | exact Views.own 5 rfl | assumption | exact Views.of_drop 1 (by assumption) | exact Views.of_drop 2 (by assumption) | exact Views.of_drop 3 (by assumption) | exact Views.of_drop 4 (by assumption) | exact Views.of_drop 5 (by assumption) | exact Views.of_drop 6 (by assumption) | exact Views.of_drop 7 (by assumption) | exact Views.of_drop 8 (by assumption) | exact Views.of_drop 9 (by assumption) | exact Views.of_drop 10 (by assumption) | exact Views.of_drop 11 (by assumption) | exact Views.of_drop 12 (by assumption)) (by first | omega | (simp; done)) (by first | omega | (simp only [List.length_cons, List.length_nil]; omega) | (simp; done) | (simp; omega))) rfl ?_
        clear hE a; intro a hE
        refine qvG hE (by first | exact .t rfl | exact .f rfl | exact .gt rfl | exact .gf rfl) (fun hg w hw => by (try simp only [↓gval_on hg, ↓gval_and hg] at hE); exact r_sliceE ⟨hE, hw⟩ rfl K.u_api_Key K.sz_uint8 rfl (Views.own 1 rfl) (by omega)) rfl ?_
        clear hE a; intro a hE
        refine qvG hE (by first | exact .t rfl | exact .f rfl | exact .gt rfl | exact .gf rfl) (fun hg w hw => by (try simp only [↓gval_on hg, ↓gval_and hg] at hE); exact r_b2sb (l := y1.val) ⟨hE, hw⟩ rfl K.u_S_uint8 K.u_uint8 K.u_string (ViewsB.arE (Views.own 1 rfl) hy1 (by decide) (by decide))) rfl ?_
        clear hE a; intro a hE
        refine qvG hE (by first | exact .t rfl | exact .f rfl | exact .gt rfl | exact .gf rfl) (fun hg w hw => by (try simp only [↓gval_on hg, ↓gval_and hg] at hE); (have hg2 := hg; (try simp only [Bool.and_eq_true, Bool.or_eq_true, Bool.not_eq_true', decide_eq_true_eq, decide_eq_false_iff_not] at hg2)); first | exact r_sliceA ⟨hE, hw⟩ rfl K.u_api_Key K.sz_uint8 rfl) rfl ?_
        clear hE a; intro a hE
        refine qvG hE (by first | exact .t rfl | exact .f rfl | exact .gt rfl | exact .gf rfl) (fun hg w hw => by (try simp only [↓gval_on hg, ↓gval_and hg] at hE); (have hg2 := hg; (try simp only [Bool.and_eq_true, Bool.or_eq_true, Bool.not_eq_true', decide_eq_true_eq, decide_eq_false_iff_not] at hg2)); first | exact r_b2sb ⟨hE, hw⟩ rfl K.u_S_uint8 K.u_uint8 K.u_string (by first | exact ViewsB.own 0 rfl | exact ViewsB.own 1 rfl | exact ViewsB.own 2 rfl | exact ViewsB.own 3 rfl | exact ViewsB.own 4 rfl | exact ViewsB.own 5 rfl | assumption | exact ViewsB.nil _ | exact ViewsB.arr 0 rfl (by first | assumption | rfl | (simp; done)) (Nat.le_refl _) (by simp [maxLen]) | exact ViewsB.arr 1 rfl (by first | assumption | rfl | (simp; done)) (Nat.le_refl _) (by simp [maxLen]) | exact ViewsB.arr 2 rfl (by first | assumption | rfl | (simp; done)) (Nat.le_refl _) (by simp [maxLen]) | exact ViewsB.arr 3 rfl (by first | assumption | rfl | (simp; done)) (Nat.le_refl _) (by simp [maxLen]) | exact ViewsB.arr 4 rfl (by first | assumption | rfl | (simp; done)) (Nat.le_refl _) (by simp [maxLen]) | exact ViewsB.of_drop 1 (by assumption) | exact ViewsB.of_drop 2 (by assumption) | exact ViewsB.of_drop 3 (by assumption) | exact ViewsB.of_drop 4 (by assumption) | exact ViewsB.of_drop 5 (by assumption) | exact ViewsB.of_drop 6 (by assumption) | exact ViewsB.of_drop 7 (by assumption) | exact ViewsB.of_drop 8 (by assumption) | exact ViewsB.of_drop 9 (by assumption) | exact ViewsB.of_drop 10 (by assumption) | exact ViewsB.of_drop 11 (by assumption) | exact ViewsB.of_drop 12 (by assumption) | exact ViewsB.sub (by first | exact ViewsB.own 0 rfl | exact ViewsB.own 1 rfl | exact ViewsB.own 2 rfl | exact ViewsB.own 3 rfl | exact ViewsB.own 4 rfl | exact ViewsB.own 5 rfl | assumption | exact ViewsB.nil _ | exact ViewsB.arr 0 rfl (by first | assumption | rfl | (simp; done)) (Nat.le_refl _) (by simp [maxLen]) | exact ViewsB.arr 1 rfl (by first | assumption | rfl | (simp; done)) (Nat.le_refl _) (by simp [maxLen]) | exact ViewsB.arr 2 rfl (by first | assumption | rfl | (simp; done)) (Nat.le_refl _) (by simp [maxLen]) | exact ViewsB.arr 3 rfl (by first | assumption | rfl | (simp; done)) (Nat.le_refl _) (by simp [maxLen]) | exact ViewsB.arr 4 rfl (by first | assumption | rfl | (simp; done)) (Nat.le_refl _) (by simp [maxLen]) | exact ViewsB.of_drop 1 (by assumption) | exact ViewsB.of_drop 2 (by assumption) | exact ViewsB.of_drop 3 (by assumption) | exact ViewsB.of_drop 4 (by assumption) | exact ViewsB.of_drop 5 (by assumption) | exact ViewsB.of_drop 6 (by assumption) | exact ViewsB.of_drop 7 (by assumption) | exact ViewsB.of_drop 8 (by assumption) | exact ViewsB.of_drop 9 (by assumption) | exact ViewsB.of_drop 10 (by assumption) | exact ViewsB.of_drop 11 (by assumption) | exact ViewsB.of_drop 12 (by assumption)) (by omega) (by first | omega | (simp; done) | (simp; omega)))) rfl ?_
        clear hE a; intro a hE
        refine qvG hE (by first | exact .t rfl | exact .f rfl | exact .gt rfl | exact .gf rfl) (fun hg w hw => by (try simp only [↓gval_on hg, ↓gval_and hg] at hE); (have hg2 := hg; (try simp only [Bool.and_eq_true, Bool.or_eq_true, Bool.not_eq_true', decide_eq_true_eq, decide_eq_false_iff_not] at hg2)); first | exact r_strless ⟨hE, hw⟩ rfl rfl) rfl ?_
        clear hE a; intro a hE
        refine qvG hE (by first | exact .t rfl | exact .f rfl | exact .gt rfl | exact .gf rfl) (fun hg w hw => by (try simp only [↓gval_on hg, ↓gval_and hg] at hE); (have hg2 := hg; (try simp only [Bool.and_eq_true, Bool.or_eq_true, Bool.not_eq_true', decide_eq_true_eq, decide_eq_false_iff_not] at hg2)); first | exact r_pickA ⟨hE, hw⟩ rfl rfl rfl | exact r_pickO ⟨hE, hw⟩ rfl rfl rfl | exact r_pick_true ⟨hE, hw⟩ rfl rfl | exact r_pick_false ⟨hE, hw⟩ rfl rfl | exact r_pick ⟨hE, hw⟩ rfl rfl rfl) rfl ?_
        clear hE a; intro a hE
        first
                | (refine qv hE (fun w hw => r_pickA ⟨hE, hw⟩ rfl rfl rfl) rfl ?_)
                | (refine qv hE (fun w hw => r_pickO ⟨hE, hw⟩ rfl rfl rfl) rfl ?_)
                | (refine qv hE (fun w hw => r_pick_true ⟨hE, hw⟩ rfl rfl) rfl ?_)
                | (refine qv hE (fun w hw => r_pick_false ⟨hE, hw⟩ rfl rfl) rfl ?_)
                | (refine qv hE (fun w hw => r_pick ⟨hE, hw⟩ rfl rfl rfl) rfl ?_)
        clear hE a; intro a hE
        refine qnil hE ?_
        clear hE a; intro a w h
        refine c_then ?_
        refine c_cond h rfl (fun ht7 => ?_) (fun ht7 => ?_)
        ·
         as_aux_lemma =>
          refine c_seq (c_region ?_)
          refine wv h (r_move h rfl) rfl ?_
          clear h a w; intro a w h
          refine wv h (r_move h rfl) rfl ?_
          clear h a w; intro a w h
          refine wv h (r_elP h rfl rfl K.u_S_api_Key K.sz_api_Key (by first | exact Views.own 0 rfl | exact Views.own 1 rfl | exact Views.own 2 rfl | exact Views.own 3 rfl | exact Views.own 4 rfl | exact Views.own 5 rfl | assumption | exact Views.of_drop 1 (by assumption) | exact Views.of_drop 2 (by assumption) | exact Views.of_drop 3 (by assumption) | exact Views.of_drop 4 (by assumption) | exact Views.of_drop 5 (by assumption) | exact Views.of_drop 6 (by assumption) | exact Views.of_drop 7 (by assumption) | exact Views.of_drop 8 (by assumption) | exact Views.of_drop 9 (by assumption) | exact Views.of_drop 10 (by assumption) | exact Views.of_drop 11 (by assumption) | exact Views.of_drop 12 (by assumption)) (by first | omega | (simp; done)) (by first | omega | (simp only [List.length_cons, List.length_nil]; omega) | (simp; done) | (simp; omega))) rfl ?_
          clear h a w; intro a w h
          first
                    | (refine wv h (r_elM h rfl K.u_api_Key rfl K.sz_api_Key rfl (by first | exact Views.own 0 rfl | exact Views.own 1 rfl | exact Views.own 2 rfl | exact Views.own 3 rfl | exact Views.own 4 rfl | exact Views.own 5 rfl | assumption | exact Views.of_drop 1 (by assumption) | exact Views.of_drop 2 (by assumption) | exact Views.of_drop 3 (by assumption) | exact Views.of_drop 4 (by assumption) | exact Views.of_drop 5 (by assumption) | exact Views.of_drop 6 (by assumption) | exact Views.of_drop 7 (by assumption) | exact Views.of_drop 8 (by assumption) | exact Views.of_drop 9 (by assumption) | exact Views.of_drop 10 (by assumption) | exact Views.of_drop 11 (by assumption) | exact Views.of_drop 12 (by assumption)) (by assumption)) rfl ?_)
                    | (refine wv h (r_elMd h rfl K.u_api_Key rfl K.sz_api_Key rfl (by first | exact Views.own 0 rfl | exact Views.own 1 rfl | exact Views.own 2 rfl | exact Views.own 3 rfl | exact Views.own 4 rfl | exact Views.own 5 rfl | assumption | exact Views.of_drop 1 (by assumption) | exact Views.of_drop 2 (by assumption) | exact Views.of_drop 3 (by assumption) | exact Views.of_drop 4 (by assumption) | exact Views.of_drop 5 (by assumption) | exact Views.of_drop 6 (by assumption) | exact Views.of_drop 7 (by assumption) | exact Views.of_drop 8 (by assumption) | exact Views.of_drop 9 (by assumption) | exact Views.of_drop 10 (by assumption) | exact Views.of_drop 11 (by assumption) | exact Views.of_drop 12 (by assumption)) (by first | omega | (simp only [List.length_cons, List.length_nil]; omega) | (simp; done) | (simp; omega))) rfl ?_)
          clear h a w; intro a w h
          refine wl rfl (op_storeA8 h rfl rfl K.sz_api_Key y1.len 0 rfl (by show (cellsA best).length = 32; exact Row.len best) ?_)
          clear h a w; intro a w h
          simp only [List.set_cons_zero, List.set_cons_succ] at h
          refine wnil (c_then ?_)
          refine c_region ?_
          refine wv h (r_assign h rfl) rfl ?_
          clear h a w; intro a w h
          refine wnil ?_
          refine b_normal ?_
          refine c_then ?_
          refine c_region ?_
          refine wv h (r_move h rfl) rfl ?_
          clear h a w; intro a w h
          refine wv h (r_bin h rfl rfl (B.add_i64 (by omega) (by omega))) rfl ?_
          clear h a w; intro a w h
          refine wv h (r_assign h rfl) rfl ?_
          clear h a w; intro a w h
          refine wnil ?_
          rw [if_pos ht7] at h2
          exact ⟨(i + 1, y1, true), h.keep [0, 6, 10, 12, 13, 14], ⟨by show i + 1 ≤ _; omega, h2⟩, by show both.length - (i + 1) < both.length - i; omega⟩
        ·
         refine c_skip ?_
         refine b_normal ?_
         refine c_then ?_
         refine c_region ?_
         refine wv h (r_move h rfl) rfl ?_
         clear h a w; intro a w h
         refine wv h (r_bin h rfl rfl (B.add_i64 (by omega) (by omega))) rfl ?_
         clear h a w; intro a w h
         refine wv h (r_assign h rfl) rfl ?_
         clear h a w; intro a w h
         refine wnil ?_
         rw [if_neg (by rw [ht7]; simp)] at h2
         exact ⟨(i + 1, best, ok), h.keep [0, 6, 10, 12, 13, 14], ⟨by show i + 1 ≤ _; omega, h2⟩, by show both.length - (i + 1) < both.length - i; omega⟩
     ·
      rw [List.drop_eq_nil_of_le (by omega), bestG] at h2
      refine c_exit ?_
      refine e_then ?_
      refine e_then ?_
      refine e_here ?_
      refine c_then ?_
      refine c_seq (c_region ?_)
      first
            | (refine wv h (r_loadA8 h rfl K.u_api_Key rfl K.sz_api_Key 0 rfl (by first | rfl | assumption | (simp; done) | (simp; omega) | omega)) rfl ?_)
            | (refine wv h (r_loadA8 h rfl K.u_api_Key rfl K.sz_api_Key 1 rfl (by first | rfl | assumption | (simp; done) | (simp; omega) | omega)) rfl ?_)
            | (refine wv h (r_loadA8 h rfl K.u_api_Key rfl K.sz_api_Key 2 rfl (by first | rfl | assumption | (simp; done) | (simp; omega) | omega)) rfl ?_)
            | (refine wv h (r_loadA8 h rfl K.u_api_Key rfl K.sz_api_Key 3 rfl (by first | rfl | assumption | (simp; done) | (simp; omega) | omega)) rfl ?_)
            | (refine wv h (r_loadA8 h rfl K.u_api_Key rfl K.sz_api_Key 4 rfl (by first | rfl | assumption | (simp; done) | (simp; omega) | omega)) rfl ?_)
            | (refine wv h (r_loadA8 h rfl K.u_api_Key rfl K.sz_api_Key 5 rfl (by first | rfl | assumption | (simp; done) | (simp; omega) | omega)) rfl ?_)
            | (refine wv h (r_loadCA h rfl K.u_api_Key rfl K.sz_api_Key (by assumption) (by first | rfl | assumption | (simp; done) | (simp; omega) | omega)) rfl ?_)
      clear h a w; intro a w h
      refine wv h (r_move h rfl) rfl ?_
      clear h a w; intro a w h
      first
            | (refine wl rfl (op_storeA8 h rfl rfl K.sz_api_Key (by first | rfl | assumption | (simp; done) | (simp; omega) | omega) 0 rfl (by first | rfl | (simp [arr8]; done) | (simp [arr8]; omega) | (simp [arr8]; assumption)) ?_))
            | (refine wl rfl (op_storeA8 h rfl rfl K.sz_api_Key (by first | rfl | assumption | (simp; done) | (simp; omega) | omega) 1 rfl (by first | rfl | (simp [arr8]; done) | (simp [arr8]; omega) | (simp [arr8]; assumption)) ?_))
            | (refine wl rfl (op_storeA8 h rfl rfl K.sz_api_Key (by first | rfl | assumption | (simp; done) | (simp; omega) | omega) 2 rfl (by first | rfl | (simp [arr8]; done) | (simp [arr8]; omega) | (simp [arr8]; assumption)) ?_))
            | (refine wl rfl (op_storeA8 h rfl rfl K.sz_api_Key (by first | rfl | assumption | (simp; done) | (simp; omega) | omega) 3 rfl (by first | rfl | (simp [arr8]; done) | (simp [arr8]; omega) | (simp [arr8]; assumption)) ?_))
            | (refine wl rfl (op_storeA8 h rfl rfl K.sz_api_Key (by first | rfl | assumption | (simp; done) | (simp; omega) | omega) 4 rfl (by first | rfl | (simp [arr8]; done) | (simp [arr8]; omega) | (simp [arr8]; assumption)) ?_))
            | (refine wl rfl (op_storeA8 h rfl rfl K.sz_api_Key (by first | rfl | assumption | (simp; done) | (simp; omega) | omega) 5 rfl (by first | rfl | (simp [arr8]; done) | (simp [arr8]; omega) | (simp [arr8]; assumption)) ?_))
      clear h a w; intro a w h
      (try simp only [List.set_cons_zero, List.set_cons_succ] at h)
      refine wv h (r_assign h rfl) rfl ?_
      clear h a w; intro a w h
      refine wnil (c_then ?_)
      refine c_ret ?_
      exact retct h rfl rfl rfl K.u_api_Key rfl K.sz_api_Key 2 rfl (by simp [arr8, best.len]) ⟨(), by rw [h2]; rfl, h.2.drop 3, trivial⟩
end Go.Proofs.K
