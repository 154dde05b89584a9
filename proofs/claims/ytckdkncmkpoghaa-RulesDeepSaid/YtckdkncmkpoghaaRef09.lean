/- The contracts of the document's charts: when one may have bytes, what stands where, which rules are broken. -/
import Derived.Test.YtckdkncmkpoghaaElemOpen
import Derived.Test.YtckdkncmkpoghaaWire
set_option linter.unusedVariables false
set_option linter.unusedSimpArgs false
set_option maxRecDepth 10000
set_option maxHeartbeats 2000000
namespace Go.Proofs.K
open Go.Sl
attribute [local irreducible] Go.Sl.Own Go.Sl.Blk Go.Sl.Sep Go.Sl.Ex Go.Sl.Fact

theorem get_some {l : List El} {i : Nat} (h : i < l.length) : ∃ e, l[i]? = some e := ⟨l[i], by simp [h]⟩
theorem risesB_at {l : List El} {i : Nat} {x y : El} (hx : l[i]? = some x) (hy : l[i + 1]? = some y) : risesB (l.drop i) = (decide (x.id < y.id) && risesB (l.drop (i + 1))) := by
  have h1 : i < l.length := (List.getElem?_eq_some_iff.1 hx).1
  have h2 : i + 1 < l.length := (List.getElem?_eq_some_iff.1 hy).1
  rw [List.drop_eq_getElem_cons h1, List.drop_eq_getElem_cons h2, risesB, show l[i] = x from (List.getElem?_eq_some_iff.1 hx).2, show l[i + 1] = y from (List.getElem?_eq_some_iff.1 hy).2]
theorem risesB_end {l : List El} {i : Nat} (h : l.length ≤ i + 1) : risesB (l.drop i) = true := by
  have hl : (l.drop i).length ≤ 1 := by rw [List.length_drop]; omega
  match hd : l.drop i, hl with
  | [], _ => rfl
  | [x], _ => rfl
theorem findI_neg {c : List El} {id : Int} (h : findI c id 0 < 0) : findE c id = none := by
  rcases findI_spec c id 0 with ⟨_, q⟩ | ⟨k, e, q, _, _⟩
  · exact q
  · omega
theorem findI_pos {c : List El} {id : Int} (h : ¬ findI c id 0 < 0) : ∃ (k : Nat) (e : El), findI c id 0 = (k : Int) ∧ c[k]? = some e ∧ findE c id = some e := by
  rcases findI_spec c id 0 with ⟨q, _⟩ | ⟨k, e, q1, q2, q3⟩
  · omega
  · exact ⟨k, e, by rw [q1, Nat.zero_add], q2, q3⟩

theorem ref09_Rising (s w : World) (v : Value) (l : List El) (F : List HItem) (hv : Views F 10 v l.length (l.flatMap cellsE)) (hs : Sat s w F) :
    Calls P n_ref09_Rising #[v] w (Ret s (fun _ : Unit => .bool (risesB l)) (fun _ => F) (fun _ => True)) := by
  have hlen := Views.len_le hv hs
  refine enter K.fn_ref09_Rising rfl K.nt_ref09_Rising rfl hs ?_
  clear hs w; intro a w h
  refine c_seq (c_region ?_)
  refine wv h (r_assign h rfl) rfl ?_
  clear h a w; intro a w h
  refine wnil (c_then ?_)
  refine c_seq ?_
  refine c_seq (c_region ?_)
  refine wv h (r_assign h rfl) rfl ?_
  clear h a w; intro a w h
  refine wnil (c_then ?_)
  refine c_block ?_
  refine c_loopX h (X := Nat) (fun i => [(0, v), (3, .int .i64 ((i + 1 : Nat) : Int))]) (fun _ => F) (fun i => (i = 0 ∨ i + 1 ≤ l.length) ∧ risesB (l.drop i) = risesB l) (fun i => l.length - i) 0 (h.keep [0, 3]) ⟨.inl rfl, rfl⟩ ?_
  clear h a w; intro i a w hx h
  obtain ⟨hx1, hx2⟩ := hx
  as_aux_lemma =>
   refine c_seq ?_
   refine c_seq (c_region ?_)
   refine wv h (r_move h rfl) rfl ?_
   clear h a w; intro a w h
   refine wv h (r_move h rfl) rfl ?_
   clear h a w; intro a w h
   refine wv h (r_lenV h rfl K.u_api_Chart (by first | exact Views.own 0 rfl | exact Views.own 1 rfl | exact Views.own 2 rfl | exact Views.own 3 rfl | exact Views.own 4 rfl | exact Views.own 5 rfl | assumption | exact Views.of_drop 1 (by assumption) | exact Views.of_drop 2 (by assumption) | exact Views.of_drop 3 (by assumption) | exact Views.of_drop 4 (by assumption) | exact Views.of_drop 5 (by assumption) | exact Views.of_drop 6 (by assumption) | exact Views.of_drop 7 (by assumption) | exact Views.of_drop 8 (by assumption) | exact Views.of_drop 9 (by assumption) | exact Views.of_drop 10 (by assumption) | exact Views.of_drop 11 (by assumption) | exact Views.of_drop 12 (by assumption))) rfl ?_
   clear h a w; intro a w h
   refine wv h (r_bin h rfl rfl (B.lss_int)) rfl ?_
   clear h a w; intro a w h
   refine wnil (c_then ?_)
   first
    | refine c_condD h rfl (fun ht1 => ?_) (fun ht1 => ?_)
    | refine c_condP h rfl (by first | (simp only [Bool.and_eq_true, Bool.or_eq_true, Bool.not_eq_true', decide_eq_true_eq, decide_eq_false_iff_not, ne_eq, Bool.not_eq_eq_eq_not, Bool.not_true, beq_iff_eq, bne_iff_ne]; exact Iff.rfl) | exact Iff.rfl) (fun ht1 => ?_) (fun ht1 => ?_)
   ·
    obtain ⟨x, hex⟩ := get_some (l := l) (i := i) (by omega)
    obtain ⟨y, hey⟩ := get_some (l := l) (i := i + 1) (by omega)
    rw [risesB_at hex hey] at hx2
    refine c_skip ?_
    refine c_then ?_
    refine c_seq ?_
    refine c_block ?_
    refine c_seq (c_draw K.mixed (by kernel_rfl) h ?_)
    clear h a w; intro a hE
    refine qv hE (fun w hw => r_move ⟨hE, hw⟩ rfl) rfl ?_
    clear hE a; intro a hE
    refine qv hE (fun w hw => r_move ⟨hE, hw⟩ rfl) rfl ?_
    clear hE a; intro a hE
    refine qv hE (fun w hw => r_bin ⟨hE, hw⟩ rfl rfl (B.sub_i64 (by omega) (by omega))) rfl ?_
    clear hE a; intro a hE
    rw [show ((i + 1 : Nat) : Int) - 1 = ((i : Nat) : Int) by omega] at hE
    refine qv hE (fun w hw => r_elP ⟨hE, hw⟩ rfl rfl K.u_api_Chart K.sz_api_Elem (by first | exact Views.own 0 rfl | exact Views.own 1 rfl | exact Views.own 2 rfl | exact Views.own 3 rfl | exact Views.own 4 rfl | exact Views.own 5 rfl | assumption | exact Views.of_drop 1 (by assumption) | exact Views.of_drop 2 (by assumption) | exact Views.of_drop 3 (by assumption) | exact Views.of_drop 4 (by assumption) | exact Views.of_drop 5 (by assumption) | exact Views.of_drop 6 (by assumption) | exact Views.of_drop 7 (by assumption) | exact Views.of_drop 8 (by assumption) | exact Views.of_drop 9 (by assumption) | exact Views.of_drop 10 (by assumption) | exact Views.of_drop 11 (by assumption) | exact Views.of_drop 12 (by assumption)) (by first | omega | (simp; done)) (by first | omega | (simp only [List.length_cons, List.length_nil]; omega) | (simp; done) | (simp; omega))) rfl ?_
    clear hE a; intro a hE
    refine qv hE (fun w hw => r_elF ⟨hE, hw⟩ 0 rfl K.u_api_Elem rfl K.sz_int rfl rfl (by first | exact Views.own 0 rfl | exact Views.own 1 rfl | exact Views.own 2 rfl | exact Views.own 3 rfl | exact Views.own 4 rfl | exact Views.own 5 rfl | assumption | exact Views.of_drop 1 (by assumption) | exact Views.of_drop 2 (by assumption) | exact Views.of_drop 3 (by assumption) | exact Views.of_drop 4 (by assumption) | exact Views.of_drop 5 (by assumption) | exact Views.of_drop 6 (by assumption) | exact Views.of_drop 7 (by assumption) | exact Views.of_drop 8 (by assumption) | exact Views.of_drop 9 (by assumption) | exact Views.of_drop 10 (by assumption) | exact Views.of_drop 11 (by assumption) | exact Views.of_drop 12 (by assumption)) (by first | omega | (simp only [List.length_cons, List.length_nil]; omega) | (simp; done) | (simp; omega))) rfl ?_
    clear hE a; intro a hE
    refine qv hE (fun w hw => r_elMf ⟨hE, hw⟩ rfl K.u_int rfl (by first | exact Views.own 0 rfl | exact Views.own 1 rfl | exact Views.own 2 rfl | exact Views.own 3 rfl | exact Views.own 4 rfl | exact Views.own 5 rfl | assumption | exact Views.of_drop 1 (by assumption) | exact Views.of_drop 2 (by assumption) | exact Views.of_drop 3 (by assumption) | exact Views.of_drop 4 (by assumption) | exact Views.of_drop 5 (by assumption) | exact Views.of_drop 6 (by assumption) | exact Views.of_drop 7 (by assumption) | exact Views.of_drop 8 (by assumption) | exact Views.of_drop 9 (by assumption) | exact Views.of_drop 10 (by assumption) | exact Views.of_drop 11 (by assumption) | exact Views.of_drop 12 (by assumption)) (by assumption) rfl) rfl ?_
    clear hE a; intro a hE
    refine qv hE (fun w hw => r_move ⟨hE, hw⟩ rfl) rfl ?_
    clear hE a; intro a hE
    refine qv hE (fun w hw => r_move ⟨hE, hw⟩ rfl) rfl ?_
    clear hE a; intro a hE
    refine qv hE (fun w hw => r_elP ⟨hE, hw⟩ rfl rfl K.u_api_Chart K.sz_api_Elem (by first | exact Views.own 0 rfl | exact Views.own 1 rfl | exact Views.own 2 rfl | exact Views.own 3 rfl | exact Views.own 4 rfl | exact Views.own 5 rfl | assumption | exact Views.of_drop 1 (by assumption) | exact Views.of_drop 2 (by assumption) | exact Views.of_drop 3 (by assumption) | exact Views.of_drop 4 (by assumption) | exact Views.of_drop 5 (by assumption) | exact Views.of_drop 6 (by assumption) | exact Views.of_drop 7 (by assumption) | exact Views.of_drop 8 (by assumption) | exact Views.of_drop 9 (by assumption) | exact Views.of_drop 10 (by assumption) | exact Views.of_drop 11 (by assumption) | exact Views.of_drop 12 (by assumption)) (by first | omega | (simp; done)) (by first | omega | (simp only [List.length_cons, List.length_nil]; omega) | (simp; done) | (simp; omega))) rfl ?_
    clear hE a; intro a hE
    refine qv hE (fun w hw => r_elF ⟨hE, hw⟩ 0 rfl K.u_api_Elem rfl K.sz_int rfl rfl (by first | exact Views.own 0 rfl | exact Views.own 1 rfl | exact Views.own 2 rfl | exact Views.own 3 rfl | exact Views.own 4 rfl | exact Views.own 5 rfl | assumption | exact Views.of_drop 1 (by assumption) | exact Views.of_drop 2 (by assumption) | exact Views.of_drop 3 (by assumption) | exact Views.of_drop 4 (by assumption) | exact Views.of_drop 5 (by assumption) | exact Views.of_drop 6 (by assumption) | exact Views.of_drop 7 (by assumption) | exact Views.of_drop 8 (by assumption) | exact Views.of_drop 9 (by assumption) | exact Views.of_drop 10 (by assumption) | exact Views.of_drop 11 (by assumption) | exact Views.of_drop 12 (by assumption)) (by first | omega | (simp only [List.length_cons, List.length_nil]; omega) | (simp; done) | (simp; omega))) rfl ?_
    clear hE a; intro a hE
    refine qv hE (fun w hw => r_elMf ⟨hE, hw⟩ rfl K.u_int rfl (by first | exact Views.own 0 rfl | exact Views.own 1 rfl | exact Views.own 2 rfl | exact Views.own 3 rfl | exact Views.own 4 rfl | exact Views.own 5 rfl | assumption | exact Views.of_drop 1 (by assumption) | exact Views.of_drop 2 (by assumption) | exact Views.of_drop 3 (by assumption) | exact Views.of_drop 4 (by assumption) | exact Views.of_drop 5 (by assumption) | exact Views.of_drop 6 (by assumption) | exact Views.of_drop 7 (by assumption) | exact Views.of_drop 8 (by assumption) | exact Views.of_drop 9 (by assumption) | exact Views.of_drop 10 (by assumption) | exact Views.of_drop 11 (by assumption) | exact Views.of_drop 12 (by assumption)) (by assumption) rfl) rfl ?_
    clear hE a; intro a hE
    refine qv hE (fun w hw => r_bin ⟨hE, hw⟩ rfl rfl (B.geq_int)) rfl ?_
    clear hE a; intro a hE
    refine qnil hE ?_
    clear hE a; intro a w h
    refine c_then ?_
    first
     | refine c_condD h rfl (fun ht2 => ?_) (fun ht2 => ?_)
     | refine c_condP h rfl (by first | (simp only [Bool.and_eq_true, Bool.or_eq_true, Bool.not_eq_true', decide_eq_true_eq, decide_eq_false_iff_not, ne_eq, Bool.not_eq_eq_eq_not, Bool.not_true, beq_iff_eq, bne_iff_ne]; exact Iff.rfl) | exact Iff.rfl) (fun ht2 => ?_) (fun ht2 => ?_)
    ·
     as_aux_lemma =>
      refine c_seq (c_region ?_)
      refine wv h (r_assign h rfl) rfl ?_
      clear h a w; intro a w h
      refine wnil (c_then ?_)
      refine c_ret ?_
      exact ret1 h rfl rfl ⟨(), by rw [← hx2, decide_eq_false (by omega)]; rfl, h.2, trivial⟩
    ·
     refine c_skip ?_
     refine b_normal ?_
     refine c_then ?_
     refine c_region ?_
     refine wv h (r_move h rfl) rfl ?_
     clear h a w; intro a w h
     refine wv h (r_bin h rfl rfl (B.add_i64 (by omega) (by omega))) rfl ?_
     clear h a w; intro a w h
     refine wv h (r_assign h rfl) rfl ?_
     clear h a w; intro a w h
     refine wnil ?_
     rw [decide_eq_true (by omega), Bool.true_and] at hx2
     rw [show ((i + 1 : Nat) : Int) + 1 = ((i + 1 + 1 : Nat) : Int) by omega] at h
     exact ⟨i + 1, h.keep [0, 3], ⟨.inr (by omega), hx2⟩, by show l.length - (i + 1) < l.length - i; omega⟩
   ·
    refine c_exit ?_
    refine e_then ?_
    refine e_then ?_
    refine e_here ?_
    refine c_then ?_
    refine c_seq (c_region ?_)
    refine wv h (r_assign h rfl) rfl ?_
    clear h a w; intro a w h
    refine wnil (c_then ?_)
    refine c_ret ?_
    exact ret1 h rfl rfl ⟨(), by rw [← hx2, risesB_end (by omega)], h.2, trivial⟩

theorem ref09_Find (s w : World) (v : Value) (l : List El) (id : Int) (F : List HItem) (hv : Views F 10 v l.length (l.flatMap cellsE)) (hs : Sat s w F) :
    Calls P n_ref09_Find #[v, .int .i64 id] w (Ret s (fun _ : Unit => .int .i64 (findI l id 0)) (fun _ => F) (fun _ => True)) := by
  have hlen := Views.len_le hv hs
  refine enter K.fn_ref09_Find rfl K.nt_ref09_Find rfl hs ?_
  clear hs w; intro a w h
  refine c_seq (c_region ?_)
  refine wv h (r_assign h rfl) rfl ?_
  clear h a w; intro a w h
  refine wnil (c_then ?_)
  refine c_seq ?_
  refine c_seq (c_region ?_)
  refine wv h (r_assign h rfl) rfl ?_
  clear h a w; intro a w h
  refine wnil (c_then ?_)
  refine c_block ?_
  refine c_loopX h (X := Nat) (fun i => [(0, v), (1, .int .i64 id), (5, .int .i64 (i : Int))]) (fun _ => F) (fun i => i ≤ l.length ∧ findI (l.drop i) id i = findI l id 0) (fun i => l.length - i) 0 (h.keep [0, 1, 5]) ⟨Nat.zero_le _, rfl⟩ ?_
  clear h a w; intro i a w hx h
  obtain ⟨hx1, hx2⟩ := hx
  as_aux_lemma =>
   refine c_seq ?_
   refine c_seq (c_region ?_)
   refine wv h (r_move h rfl) rfl ?_
   clear h a w; intro a w h
   refine wv h (r_move h rfl) rfl ?_
   clear h a w; intro a w h
   refine wv h (r_lenV h rfl K.u_api_Chart (by first | exact Views.own 0 rfl | exact Views.own 1 rfl | exact Views.own 2 rfl | exact Views.own 3 rfl | exact Views.own 4 rfl | exact Views.own 5 rfl | assumption | exact Views.of_drop 1 (by assumption) | exact Views.of_drop 2 (by assumption) | exact Views.of_drop 3 (by assumption) | exact Views.of_drop 4 (by assumption) | exact Views.of_drop 5 (by assumption) | exact Views.of_drop 6 (by assumption) | exact Views.of_drop 7 (by assumption) | exact Views.of_drop 8 (by assumption) | exact Views.of_drop 9 (by assumption) | exact Views.of_drop 10 (by assumption) | exact Views.of_drop 11 (by assumption) | exact Views.of_drop 12 (by assumption))) rfl ?_
   clear h a w; intro a w h
   refine wv h (r_bin h rfl rfl (B.lss_int)) rfl ?_
   clear h a w; intro a w h
   refine wnil (c_then ?_)
   first
    | refine c_condD h rfl (fun ht1 => ?_) (fun ht1 => ?_)
    | refine c_condP h rfl (by first | (simp only [Bool.and_eq_true, Bool.or_eq_true, Bool.not_eq_true', decide_eq_true_eq, decide_eq_false_iff_not, ne_eq, Bool.not_eq_eq_eq_not, Bool.not_true, beq_iff_eq, bne_iff_ne]; exact Iff.rfl) | exact Iff.rfl) (fun ht1 => ?_) (fun ht1 => ?_)
   ·
    obtain ⟨x, hex⟩ := get_some (l := l) (i := i) (by omega)
    rw [List.drop_eq_getElem_cons (by omega), findI, show l[i] = x from (List.getElem?_eq_some_iff.1 hex).2] at hx2
    refine c_skip ?_
    refine c_then ?_
    refine c_seq ?_
    refine c_block ?_
    refine c_seq (c_region ?_)
    refine wv h (r_move h rfl) rfl ?_
    clear h a w; intro a w h
    refine wv h (r_move h rfl) rfl ?_
    clear h a w; intro a w h
    refine wv h (r_elP h rfl rfl K.u_api_Chart K.sz_api_Elem (by first | exact Views.own 0 rfl | exact Views.own 1 rfl | exact Views.own 2 rfl | exact Views.own 3 rfl | exact Views.own 4 rfl | exact Views.own 5 rfl | assumption | exact Views.of_drop 1 (by assumption) | exact Views.of_drop 2 (by assumption) | exact Views.of_drop 3 (by assumption) | exact Views.of_drop 4 (by assumption) | exact Views.of_drop 5 (by assumption) | exact Views.of_drop 6 (by assumption) | exact Views.of_drop 7 (by assumption) | exact Views.of_drop 8 (by assumption) | exact Views.of_drop 9 (by assumption) | exact Views.of_drop 10 (by assumption) | exact Views.of_drop 11 (by assumption) | exact Views.of_drop 12 (by assumption)) (by first | omega | (simp; done)) (by first | omega | (simp only [List.length_cons, List.length_nil]; omega) | (simp; done) | (simp; omega))) rfl ?_
    clear h a w; intro a w h
    refine wv h (r_elF h 0 rfl K.u_api_Elem rfl K.sz_int rfl rfl (by first | exact Views.own 0 rfl | exact Views.own 1 rfl | exact Views.own 2 rfl | exact Views.own 3 rfl | exact Views.own 4 rfl | exact Views.own 5 rfl | assumption | exact Views.of_drop 1 (by assumption) | exact Views.of_drop 2 (by assumption) | exact Views.of_drop 3 (by assumption) | exact Views.of_drop 4 (by assumption) | exact Views.of_drop 5 (by assumption) | exact Views.of_drop 6 (by assumption) | exact Views.of_drop 7 (by assumption) | exact Views.of_drop 8 (by assumption) | exact Views.of_drop 9 (by assumption) | exact Views.of_drop 10 (by assumption) | exact Views.of_drop 11 (by assumption) | exact Views.of_drop 12 (by assumption)) (by first | omega | (simp only [List.length_cons, List.length_nil]; omega) | (simp; done) | (simp; omega))) rfl ?_
    clear h a w; intro a w h
    refine wv h (r_elMf h rfl K.u_int rfl (by first | exact Views.own 0 rfl | exact Views.own 1 rfl | exact Views.own 2 rfl | exact Views.own 3 rfl | exact Views.own 4 rfl | exact Views.own 5 rfl | assumption | exact Views.of_drop 1 (by assumption) | exact Views.of_drop 2 (by assumption) | exact Views.of_drop 3 (by assumption) | exact Views.of_drop 4 (by assumption) | exact Views.of_drop 5 (by assumption) | exact Views.of_drop 6 (by assumption) | exact Views.of_drop 7 (by assumption) | exact Views.of_drop 8 (by assumption) | exact Views.of_drop 9 (by assumption) | exact Views.of_drop 10 (by assumption) | exact Views.of_drop 11 (by assumption) | exact Views.of_drop 12 (by assumption)) (by assumption) rfl) rfl ?_
    clear h a w; intro a w h
    refine wv h (r_move h rfl) rfl ?_
    clear h a w; intro a w h
    refine wv h (r_bin h rfl rfl (B.eql_int)) rfl ?_
    clear h a w; intro a w h
    refine wnil (c_then ?_)
    first
     | refine c_condD h rfl (fun ht2 => ?_) (fun ht2 => ?_)
     | refine c_condP h rfl (by first | (simp only [Bool.and_eq_true, Bool.or_eq_true, Bool.not_eq_true', decide_eq_true_eq, decide_eq_false_iff_not, ne_eq, Bool.not_eq_eq_eq_not, Bool.not_true, beq_iff_eq, bne_iff_ne]; exact Iff.rfl) | exact Iff.rfl) (fun ht2 => ?_) (fun ht2 => ?_)
    ·
     as_aux_lemma =>
      refine c_seq (c_region ?_)
      refine wv h (r_move h rfl) rfl ?_
      clear h a w; intro a w h
      refine wv h (r_assign h rfl) rfl ?_
      clear h a w; intro a w h
      refine wnil (c_then ?_)
      refine c_ret ?_
      exact ret1 h rfl rfl ⟨(), by rw [← hx2, if_pos ht2], h.2, trivial⟩
    ·
     refine c_skip ?_
     refine b_normal ?_
     refine c_then ?_
     refine c_region ?_
     refine wv h (r_move h rfl) rfl ?_
     clear h a w; intro a w h
     refine wv h (r_bin h rfl rfl (B.add_i64 (by omega) (by omega))) rfl ?_
     clear h a w; intro a w h
     refine wv h (r_assign h rfl) rfl ?_
     clear h a w; intro a w h
     refine wnil ?_
     rw [if_neg ht2] at hx2
     exact ⟨i + 1, h.keep [0, 1, 5], ⟨by omega, hx2⟩, by show l.length - (i + 1) < l.length - i; omega⟩
   ·
    obtain rfl : i = l.length := by omega
    rw [List.drop_length, findI] at hx2
    refine c_exit ?_
    refine e_then ?_
    refine e_then ?_
    refine e_here ?_
    refine c_then ?_
    refine c_seq (c_region ?_)
    refine wv h (r_assign h rfl) rfl ?_
    clear h a w; intro a w h
    refine wnil (c_then ?_)
    refine c_ret ?_
    exact ret1 h rfl rfl ⟨(), by rw [← hx2], h.2, trivial⟩

theorem ref09_named (s w : World) (e : El) (F : List HItem) (hs : Sat s w F) :
    Calls P n_ref09_named #[.agg ⟨cellsE e⟩] w (Ret s (fun _ : Unit => .bool (namedE e)) (fun _ => F) (fun _ => True)) := by
  refine enter K.fn_ref09_named rfl K.nt_ref09_named rfl hs ?_
  clear hs w; intro a w h
  refine c_seq (c_region ?_)
  refine wl rfl (op_box h rfl rfl ?_)
  clear h a w; intro b1 a w h
  try simp only [Value.cells] at h
  refine wv h (r_assign h rfl) rfl ?_
  clear h a w; intro a w h
  refine wnil (c_then ?_)
  refine c_seq (c_region ?_)
  refine wv h (r_fieldAddr h 1 rfl K.u_api_Elem rfl K.sz_uint8 rfl rfl) rfl ?_
  clear h a w; intro a w h
  first
    | (refine wv h (r_ldN h rfl K.u_uint8 rfl 0 rfl rfl) rfl ?_)
    | (refine wv h (r_ldN h rfl K.u_uint8 rfl 1 rfl rfl) rfl ?_)
    | (refine wv h (r_ldN h rfl K.u_uint8 rfl 2 rfl rfl) rfl ?_)
    | (refine wv h (r_ldN h rfl K.u_uint8 rfl 3 rfl rfl) rfl ?_)
    | (refine wv h (r_ldN h rfl K.u_uint8 rfl 4 rfl rfl) rfl ?_)
    | (refine wv h (r_ldN h rfl K.u_uint8 rfl 5 rfl rfl) rfl ?_)
    | (refine wv h (r_ldN h rfl K.u_uint8 rfl 6 rfl rfl) rfl ?_)
    | (refine wv h (r_ldC (o := 1) h rfl K.u_uint8 rfl 0 rfl) rfl ?_)
    | (refine wv h (r_ldC (o := 1) h rfl K.u_uint8 rfl 1 rfl) rfl ?_)
    | (refine wv h (r_ldC (o := 1) h rfl K.u_uint8 rfl 2 rfl) rfl ?_)
    | (refine wv h (r_ldC (o := 1) h rfl K.u_uint8 rfl 3 rfl) rfl ?_)
    | (refine wv h (r_ldC (o := 1) h rfl K.u_uint8 rfl 4 rfl) rfl ?_)
    | (refine wv h (r_ldC (o := 1) h rfl K.u_uint8 rfl 5 rfl) rfl ?_)
    | (refine wv h (r_ldC (o := 1) h rfl K.u_uint8 rfl 6 rfl) rfl ?_)
    | (refine wv h (r_load h rfl K.u_uint8 rfl 0 rfl rfl) rfl ?_)
    | (refine wv h (r_load h rfl K.u_uint8 rfl 1 rfl rfl) rfl ?_)
    | (refine wv h (r_load h rfl K.u_uint8 rfl 2 rfl rfl) rfl ?_)
    | (refine wv h (r_load h rfl K.u_uint8 rfl 3 rfl rfl) rfl ?_)
    | (refine wv h (r_load h rfl K.u_uint8 rfl 4 rfl rfl) rfl ?_)
    | (refine wv h (r_load h rfl K.u_uint8 rfl 5 rfl rfl) rfl ?_)
    | (refine wv h (r_load1 h rfl K.u_uint8 rfl (by assumption)) rfl ?_)
  clear h a w; intro a w h
  refine wv h (r_bin h rfl rfl (B.eql_u8 (y := 1))) rfl ?_
  clear h a w; intro a w h
  refine wv h (r_move h rfl) rfl ?_
  clear h a w; intro a w h
  refine wvG h (by first | exact .t rfl | exact .f rfl | exact .gt rfl | exact .gf rfl) (fun hg => by (try simp only [↓gval_on hg, ↓gval_and hg] at h); (have hg2 := hg; (try simp only [Bool.and_eq_true, Bool.or_eq_true, Bool.not_eq_true', decide_eq_true_eq, decide_eq_false_iff_not] at hg2)); first | exact r_fieldAddr h 1 rfl K.u_api_Elem rfl K.sz_uint8 rfl rfl) rfl ?_
  clear h a w; intro a w h
  refine wvG h (by first | exact .t rfl | exact .f rfl | exact .gt rfl | exact .gf rfl) (fun hg => by (try simp only [↓gval_on hg, ↓gval_and hg] at h); (have hg2 := hg; (try simp only [Bool.and_eq_true, Bool.or_eq_true, Bool.not_eq_true', decide_eq_true_eq, decide_eq_false_iff_not] at hg2)); first | exact r_ldN h rfl K.u_uint8 rfl 0 rfl rfl | exact r_ldN h rfl K.u_uint8 rfl 1 rfl rfl | exact r_ldN h rfl K.u_uint8 rfl 2 rfl rfl | exact r_ldN h rfl K.u_uint8 rfl 3 rfl rfl | exact r_ldN h rfl K.u_uint8 rfl 4 rfl rfl | exact r_ldN h rfl K.u_uint8 rfl 5 rfl rfl | exact r_ldN h rfl K.u_uint8 rfl 6 rfl rfl | exact r_ldC (o := 1) h rfl K.u_uint8 rfl 0 rfl | exact r_ldC (o := 1) h rfl K.u_uint8 rfl 1 rfl | exact r_ldC (o := 1) h rfl K.u_uint8 rfl 2 rfl | exact r_ldC (o := 1) h rfl K.u_uint8 rfl 3 rfl | exact r_ldC (o := 1) h rfl K.u_uint8 rfl 4 rfl | exact r_ldC (o := 1) h rfl K.u_uint8 rfl 5 rfl | exact r_ldC (o := 1) h rfl K.u_uint8 rfl 6 rfl | exact r_load h rfl K.u_uint8 rfl 0 rfl rfl | exact r_load h rfl K.u_uint8 rfl 1 rfl rfl | exact r_load h rfl K.u_uint8 rfl 2 rfl rfl | exact r_load h rfl K.u_uint8 rfl 3 rfl rfl | exact r_load h rfl K.u_uint8 rfl 4 rfl rfl | exact r_load h rfl K.u_uint8 rfl 5 rfl rfl | exact r_load1 h rfl K.u_uint8 rfl (by assumption)) rfl ?_
  clear h a w; intro a w h
  refine wvG h (by first | exact .t rfl | exact .f rfl | exact .gt rfl | exact .gf rfl) (fun hg => by (try simp only [↓gval_on hg, ↓gval_and hg] at h); (have hg2 := hg; (try simp only [Bool.and_eq_true, Bool.or_eq_true, Bool.not_eq_true', decide_eq_true_eq, decide_eq_false_iff_not] at hg2)); first | exact r_bin h rfl rfl (B.eql_u8 (y := 2))) rfl ?_
  clear h a w; intro a w h
  first
    | (refine wv h (r_pickA h rfl rfl rfl) rfl ?_)
    | (refine wv h (r_pickO h rfl rfl rfl) rfl ?_)
    | (refine wv h (r_pick_true h rfl rfl) rfl ?_)
    | (refine wv h (r_pick_false h rfl rfl) rfl ?_)
    | (refine wv h (r_pick h rfl rfl rfl) rfl ?_)
  clear h a w; intro a w h
  refine wv h (r_assign h rfl) rfl ?_
  clear h a w; intro a w h
  refine wnil (c_then ?_)
  refine c_ret ?_
  exact ret1 h rfl rfl ⟨(), rfl, h.2.drop 1, trivial⟩

theorem ref09_kind (s w : World) (v : Value) (l : List El) (id : Int) (F : List HItem) (hv : Views F 10 v l.length (l.flatMap cellsE)) (hs : Sat s w F) :
    Calls P n_ref09_kind #[v, .int .i64 id] w (Ret s (fun _ : Unit => bv (kindE l id)) (fun _ => F) (fun _ => True)) := by
  have hlen := Views.len_le hv hs
  refine enter K.fn_ref09_kind rfl K.nt_ref09_kind rfl hs ?_
  clear hs w; intro a w h
  refine c_seq (c_region ?_)
  refine wv h (r_assign h rfl) rfl ?_
  clear h a w; intro a w h
  refine wnil (c_then ?_)
  refine c_seq (c_region ?_)
  refine wv h (r_move h rfl) rfl ?_
  clear h a w; intro a w h
  refine wv h (r_move h rfl) rfl ?_
  clear h a w; intro a w h
  refine wl rfl (op_call h rfl K.go_ref09_Find (ref09_Find s _ _ _ _ _ (by first | exact Views.own 0 rfl | exact Views.own 1 rfl | exact Views.own 2 rfl | exact Views.own 3 rfl | exact Views.own 4 rfl | exact Views.own 5 rfl | assumption | exact Views.of_drop 1 (by assumption) | exact Views.of_drop 2 (by assumption) | exact Views.of_drop 3 (by assumption) | exact Views.of_drop 4 (by assumption) | exact Views.of_drop 5 (by assumption) | exact Views.of_drop 6 (by assumption) | exact Views.of_drop 7 (by assumption) | exact Views.of_drop 8 (by assumption) | exact Views.of_drop 9 (by assumption) | exact Views.of_drop 10 (by assumption) | exact Views.of_drop 11 (by assumption) | exact Views.of_drop 12 (by assumption)) h.2) rfl ?_)
  clear h a w; intro x a w hx h
  (try simp only [List.set_cons_zero, List.set_cons_succ] at h)
  refine wv h (r_assign h rfl) rfl ?_
  clear h a w; intro a w h
  refine wnil (c_then ?_)
  refine c_seq ?_
  refine c_seq (c_region ?_)
  refine wv h (r_move h rfl) rfl ?_
  clear h a w; intro a w h
  refine wv h (r_bin h rfl rfl (B.lss_int)) rfl ?_
  clear h a w; intro a w h
  refine wnil (c_then ?_)
  first
   | refine c_condD h rfl (fun ht1 => ?_) (fun ht1 => ?_)
   | refine c_condP h rfl (by first | (simp only [Bool.and_eq_true, Bool.or_eq_true, Bool.not_eq_true', decide_eq_true_eq, decide_eq_false_iff_not, ne_eq, Bool.not_eq_eq_eq_not, Bool.not_true, beq_iff_eq, bne_iff_ne]; exact Iff.rfl) | exact Iff.rfl) (fun ht1 => ?_) (fun ht1 => ?_)
  ·
   have hf := findI_neg ht1
   as_aux_lemma =>
    refine c_seq (c_region ?_)
    refine wv h (r_assign h rfl) rfl ?_
    clear h a w; intro a w h
    refine wnil (c_then ?_)
    refine c_ret ?_
    exact ret1 h rfl rfl ⟨(), by rw [kindE, hf]; rfl, h.2, trivial⟩
  ·
   obtain ⟨k, e, q1, q2, q3⟩ := findI_pos ht1
   rw [q1] at h
   have hkl : k < l.length := (List.getElem?_eq_some_iff.1 q2).1
   refine c_skip ?_
   refine c_then ?_
   refine c_seq (c_region ?_)
   refine wv h (r_move h rfl) rfl ?_
   clear h a w; intro a w h
   refine wv h (r_move h rfl) rfl ?_
   clear h a w; intro a w h
   refine wv h (r_elP h rfl rfl K.u_api_Chart K.sz_api_Elem (by first | exact Views.own 0 rfl | exact Views.own 1 rfl | exact Views.own 2 rfl | exact Views.own 3 rfl | exact Views.own 4 rfl | exact Views.own 5 rfl | assumption | exact Views.of_drop 1 (by assumption) | exact Views.of_drop 2 (by assumption) | exact Views.of_drop 3 (by assumption) | exact Views.of_drop 4 (by assumption) | exact Views.of_drop 5 (by assumption) | exact Views.of_drop 6 (by assumption) | exact Views.of_drop 7 (by assumption) | exact Views.of_drop 8 (by assumption) | exact Views.of_drop 9 (by assumption) | exact Views.of_drop 10 (by assumption) | exact Views.of_drop 11 (by assumption) | exact Views.of_drop 12 (by assumption)) (by first | omega | (simp; done)) (by first | omega | (simp only [List.length_cons, List.length_nil]; omega) | (simp; done) | (simp; omega))) rfl ?_
   clear h a w; intro a w h
   refine wv h (r_elF h 1 rfl K.u_api_Elem rfl K.sz_uint8 rfl rfl (by first | exact Views.own 0 rfl | exact Views.own 1 rfl | exact Views.own 2 rfl | exact Views.own 3 rfl | exact Views.own 4 rfl | exact Views.own 5 rfl | assumption | exact Views.of_drop 1 (by assumption) | exact Views.of_drop 2 (by assumption) | exact Views.of_drop 3 (by assumption) | exact Views.of_drop 4 (by assumption) | exact Views.of_drop 5 (by assumption) | exact Views.of_drop 6 (by assumption) | exact Views.of_drop 7 (by assumption) | exact Views.of_drop 8 (by assumption) | exact Views.of_drop 9 (by assumption) | exact Views.of_drop 10 (by assumption) | exact Views.of_drop 11 (by assumption) | exact Views.of_drop 12 (by assumption)) (by first | omega | (simp only [List.length_cons, List.length_nil]; omega) | (simp; done) | (simp; omega))) rfl ?_
   clear h a w; intro a w h
   refine wv h (r_elMf h rfl K.u_uint8 rfl (by first | exact Views.own 0 rfl | exact Views.own 1 rfl | exact Views.own 2 rfl | exact Views.own 3 rfl | exact Views.own 4 rfl | exact Views.own 5 rfl | assumption | exact Views.of_drop 1 (by assumption) | exact Views.of_drop 2 (by assumption) | exact Views.of_drop 3 (by assumption) | exact Views.of_drop 4 (by assumption) | exact Views.of_drop 5 (by assumption) | exact Views.of_drop 6 (by assumption) | exact Views.of_drop 7 (by assumption) | exact Views.of_drop 8 (by assumption) | exact Views.of_drop 9 (by assumption) | exact Views.of_drop 10 (by assumption) | exact Views.of_drop 11 (by assumption) | exact Views.of_drop 12 (by assumption)) (by assumption) rfl) rfl ?_
   clear h a w; intro a w h
   refine wv h (r_assign h rfl) rfl ?_
   clear h a w; intro a w h
   refine wnil (c_then ?_)
   refine c_ret ?_
   exact ret1 h rfl rfl ⟨(), by rw [kindE, q3], h.2, trivial⟩

theorem ref09_breaks (s w : World) (v : Value) (l : List El) (e : El) (r : Nat) (F : List HItem) (hv : Views F 10 v l.length (l.flatMap cellsE)) (hr : 2 ≤ r) (hr2 : r < 9) (hs : Sat s w F) :
    Calls P n_ref09_breaks #[v, .agg ⟨cellsE e⟩, .int .i64 (r : Int)] w (Ret s (fun _ : Unit => .bool (brkE l e r)) (fun _ => F) (fun _ => True)) := by
  have hlen := Views.len_le hv hs
  refine enter K.fn_ref09_breaks rfl K.nt_ref09_breaks rfl hs ?_
  clear hs w; intro a w h
  refine c_seq (c_region ?_)
  refine wl rfl (op_box h rfl rfl ?_)
  clear h a w; intro b4 a w h
  try simp only [Value.cells] at h
  refine wv h (r_assign h rfl) rfl ?_
  clear h a w; intro a w h
  refine wnil (c_then ?_)
  refine c_seq ?_
  refine c_seq (c_region ?_)
  refine wv h (r_move h rfl) rfl ?_
  clear h a w; intro a w h
  refine wnil (c_then ?_)
  refine c_block ?_
  refine c_seq (c_region ?_)
  refine wv h (r_bin h rfl rfl (B.eql_int)) rfl ?_
  clear h a w; intro a w h
  refine wv h (r_assign h rfl) rfl ?_
  clear h a w; intro a w h
  refine wnil (c_then ?_)
  first
   | refine c_condD h rfl (fun ht1 => ?_) (fun ht1 => ?_)
   | refine c_condP h rfl (by first | (simp only [Bool.and_eq_true, Bool.or_eq_true, Bool.not_eq_true', decide_eq_true_eq, decide_eq_false_iff_not, ne_eq, Bool.not_eq_eq_eq_not, Bool.not_true, beq_iff_eq, bne_iff_ne]; exact Iff.rfl) | exact Iff.rfl) (fun ht1 => ?_) (fun ht1 => ?_)
  ·
   obtain rfl : r = 2 := by omega
   as_aux_lemma =>
    refine c_seq (c_region ?_)
    refine wv h (r_fieldAddr h 5 rfl K.u_api_Elem rfl K.sz_int rfl rfl) rfl ?_
    clear h a w; intro a w h
    first
        | (refine wv h (r_ldN h rfl K.u_int rfl 0 rfl rfl) rfl ?_)
        | (refine wv h (r_ldN h rfl K.u_int rfl 1 rfl rfl) rfl ?_)
        | (refine wv h (r_ldN h rfl K.u_int rfl 2 rfl rfl) rfl ?_)
        | (refine wv h (r_ldN h rfl K.u_int rfl 3 rfl rfl) rfl ?_)
        | (refine wv h (r_ldN h rfl K.u_int rfl 4 rfl rfl) rfl ?_)
        | (refine wv h (r_ldN h rfl K.u_int rfl 5 rfl rfl) rfl ?_)
        | (refine wv h (r_ldN h rfl K.u_int rfl 6 rfl rfl) rfl ?_)
        | (refine wv h (r_ldC (o := 5) h rfl K.u_int rfl 0 rfl) rfl ?_)
        | (refine wv h (r_ldC (o := 5) h rfl K.u_int rfl 1 rfl) rfl ?_)
        | (refine wv h (r_ldC (o := 5) h rfl K.u_int rfl 2 rfl) rfl ?_)
        | (refine wv h (r_ldC (o := 5) h rfl K.u_int rfl 3 rfl) rfl ?_)
        | (refine wv h (r_ldC (o := 5) h rfl K.u_int rfl 4 rfl) rfl ?_)
        | (refine wv h (r_ldC (o := 5) h rfl K.u_int rfl 5 rfl) rfl ?_)
        | (refine wv h (r_ldC (o := 5) h rfl K.u_int rfl 6 rfl) rfl ?_)
        | (refine wv h (r_load h rfl K.u_int rfl 0 rfl rfl) rfl ?_)
        | (refine wv h (r_load h rfl K.u_int rfl 1 rfl rfl) rfl ?_)
        | (refine wv h (r_load h rfl K.u_int rfl 2 rfl rfl) rfl ?_)
        | (refine wv h (r_load h rfl K.u_int rfl 3 rfl rfl) rfl ?_)
        | (refine wv h (r_load h rfl K.u_int rfl 4 rfl rfl) rfl ?_)
        | (refine wv h (r_load h rfl K.u_int rfl 5 rfl rfl) rfl ?_)
        | (refine wv h (r_load1 h rfl K.u_int rfl (by assumption)) rfl ?_)
    clear h a w; intro a w h
    refine wv h (r_bin h rfl rfl (B.neq_int)) rfl ?_
    clear h a w; intro a w h
    refine wv h (r_move h rfl) rfl ?_
    clear h a w; intro a w h
    refine wvG h (by first | exact .t rfl | exact .f rfl | exact .gt rfl | exact .gf rfl) (fun hg => by (try simp only [↓gval_on hg, ↓gval_and hg] at h); (have hg2 := hg; (try simp only [Bool.and_eq_true, Bool.or_eq_true, Bool.not_eq_true', decide_eq_true_eq, decide_eq_false_iff_not] at hg2)); first | exact r_fieldAddr h 6 rfl K.u_api_Elem rfl K.sz_int rfl rfl) rfl ?_
    clear h a w; intro a w h
    refine wvG h (by first | exact .t rfl | exact .f rfl | exact .gt rfl | exact .gf rfl) (fun hg => by (try simp only [↓gval_on hg, ↓gval_and hg] at h); (have hg2 := hg; (try simp only [Bool.and_eq_true, Bool.or_eq_true, Bool.not_eq_true', decide_eq_true_eq, decide_eq_false_iff_not] at hg2)); first | exact r_ldN h rfl K.u_int rfl 0 rfl rfl | exact r_ldN h rfl K.u_int rfl 1 rfl rfl | exact r_ldN h rfl K.u_int rfl 2 rfl rfl | exact r_ldN h rfl K.u_int rfl 3 rfl rfl | exact r_ldN h rfl K.u_int rfl 4 rfl rfl | exact r_ldN h rfl K.u_int rfl 5 rfl rfl | exact r_ldN h rfl K.u_int rfl 6 rfl rfl | exact r_ldC (o := 6) h rfl K.u_int rfl 0 rfl | exact r_ldC (o := 6) h rfl K.u_int rfl 1 rfl | exact r_ldC (o := 6) h rfl K.u_int rfl 2 rfl | exact r_ldC (o := 6) h rfl K.u_int rfl 3 rfl | exact r_ldC (o := 6) h rfl K.u_int rfl 4 rfl | exact r_ldC (o := 6) h rfl K.u_int rfl 5 rfl | exact r_ldC (o := 6) h rfl K.u_int rfl 6 rfl | exact r_load h rfl K.u_int rfl 0 rfl rfl | exact r_load h rfl K.u_int rfl 1 rfl rfl | exact r_load h rfl K.u_int rfl 2 rfl rfl | exact r_load h rfl K.u_int rfl 3 rfl rfl | exact r_load h rfl K.u_int rfl 4 rfl rfl | exact r_load h rfl K.u_int rfl 5 rfl rfl | exact r_load1 h rfl K.u_int rfl (by assumption)) rfl ?_
    clear h a w; intro a w h
    refine wvG h (by first | exact .t rfl | exact .f rfl | exact .gt rfl | exact .gf rfl) (fun hg => by (try simp only [↓gval_on hg, ↓gval_and hg] at h); (have hg2 := hg; (try simp only [Bool.and_eq_true, Bool.or_eq_true, Bool.not_eq_true', decide_eq_true_eq, decide_eq_false_iff_not] at hg2)); first | exact r_bin h rfl rfl (B.neq_int)) rfl ?_
    clear h a w; intro a w h
    first
        | (refine wv h (r_pickA h rfl rfl rfl) rfl ?_)
        | (refine wv h (r_pickO h rfl rfl rfl) rfl ?_)
        | (refine wv h (r_pick_true h rfl rfl) rfl ?_)
        | (refine wv h (r_pick_false h rfl rfl) rfl ?_)
        | (refine wv h (r_pick h rfl rfl rfl) rfl ?_)
    clear h a w; intro a w h
    refine wv h (r_move h rfl) rfl ?_
    clear h a w; intro a w h
    refine wvG h (by first | exact .t rfl | exact .f rfl | exact .gt rfl | exact .gf rfl) (fun hg => by (try simp only [↓gval_on hg, ↓gval_and hg] at h); (have hg2 := hg; (try simp only [Bool.and_eq_true, Bool.or_eq_true, Bool.not_eq_true', decide_eq_true_eq, decide_eq_false_iff_not] at hg2)); first | exact r_fieldAddr h 7 rfl K.u_api_Elem rfl K.sz_string rfl rfl) rfl ?_
    clear h a w; intro a w h
    refine wvG h (by first | exact .t rfl | exact .f rfl | exact .gt rfl | exact .gf rfl) (fun hg => by (try simp only [↓gval_on hg, ↓gval_and hg] at h); (have hg2 := hg; (try simp only [Bool.and_eq_true, Bool.or_eq_true, Bool.not_eq_true', decide_eq_true_eq, decide_eq_false_iff_not] at hg2)); first | exact r_ldN h rfl K.u_string rfl 0 rfl rfl | exact r_ldN h rfl K.u_string rfl 1 rfl rfl | exact r_ldN h rfl K.u_string rfl 2 rfl rfl | exact r_ldN h rfl K.u_string rfl 3 rfl rfl | exact r_ldN h rfl K.u_string rfl 4 rfl rfl | exact r_ldN h rfl K.u_string rfl 5 rfl rfl | exact r_ldN h rfl K.u_string rfl 6 rfl rfl | exact r_ldC (o := 7) h rfl K.u_string rfl 0 rfl | exact r_ldC (o := 7) h rfl K.u_string rfl 1 rfl | exact r_ldC (o := 7) h rfl K.u_string rfl 2 rfl | exact r_ldC (o := 7) h rfl K.u_string rfl 3 rfl | exact r_ldC (o := 7) h rfl K.u_string rfl 4 rfl | exact r_ldC (o := 7) h rfl K.u_string rfl 5 rfl | exact r_ldC (o := 7) h rfl K.u_string rfl 6 rfl | exact r_load h rfl K.u_string rfl 0 rfl rfl | exact r_load h rfl K.u_string rfl 1 rfl rfl | exact r_load h rfl K.u_string rfl 2 rfl rfl | exact r_load h rfl K.u_string rfl 3 rfl rfl | exact r_load h rfl K.u_string rfl 4 rfl rfl | exact r_load h rfl K.u_string rfl 5 rfl rfl | exact r_load1 h rfl K.u_string rfl (by assumption)) rfl ?_
    clear h a w; intro a w h
    refine wvG h (by first | exact .t rfl | exact .f rfl | exact .gt rfl | exact .gf rfl) (fun hg => by (try simp only [↓gval_on hg, ↓gval_and hg] at h); (have hg2 := hg; (try simp only [Bool.and_eq_true, Bool.or_eq_true, Bool.not_eq_true', decide_eq_true_eq, decide_eq_false_iff_not] at hg2)); first | exact r_strne h rfl rfl) rfl ?_
    clear h a w; intro a w h
    first
        | (refine wv h (r_pickA h rfl rfl rfl) rfl ?_)
        | (refine wv h (r_pickO h rfl rfl rfl) rfl ?_)
        | (refine wv h (r_pick_true h rfl rfl) rfl ?_)
        | (refine wv h (r_pick_false h rfl rfl) rfl ?_)
        | (refine wv h (r_pick h rfl rfl rfl) rfl ?_)
    clear h a w; intro a w h
    refine wv h (r_move h rfl) rfl ?_
    clear h a w; intro a w h
    refine wvG h (by first | exact .t rfl | exact .f rfl | exact .gt rfl | exact .gf rfl) (fun hg => by (try simp only [↓gval_on hg, ↓gval_and hg] at h); (have hg2 := hg; (try simp only [Bool.and_eq_true, Bool.or_eq_true, Bool.not_eq_true', decide_eq_true_eq, decide_eq_false_iff_not] at hg2)); first | exact r_fieldAddr h 8 rfl K.u_api_Elem rfl K.sz_string rfl rfl) rfl ?_
    clear h a w; intro a w h
    refine wvG h (by first | exact .t rfl | exact .f rfl | exact .gt rfl | exact .gf rfl) (fun hg => by (try simp only [↓gval_on hg, ↓gval_and hg] at h); (have hg2 := hg; (try simp only [Bool.and_eq_true, Bool.or_eq_true, Bool.not_eq_true', decide_eq_true_eq, decide_eq_false_iff_not] at hg2)); first | exact r_ldN h rfl K.u_string rfl 0 rfl rfl | exact r_ldN h rfl K.u_string rfl 1 rfl rfl | exact r_ldN h rfl K.u_string rfl 2 rfl rfl | exact r_ldN h rfl K.u_string rfl 3 rfl rfl | exact r_ldN h rfl K.u_string rfl 4 rfl rfl | exact r_ldN h rfl K.u_string rfl 5 rfl rfl | exact r_ldN h rfl K.u_string rfl 6 rfl rfl | exact r_ldC (o := 8) h rfl K.u_string rfl 0 rfl | exact r_ldC (o := 8) h rfl K.u_string rfl 1 rfl | exact r_ldC (o := 8) h rfl K.u_string rfl 2 rfl | exact r_ldC (o := 8) h rfl K.u_string rfl 3 rfl | exact r_ldC (o := 8) h rfl K.u_string rfl 4 rfl | exact r_ldC (o := 8) h rfl K.u_string rfl 5 rfl | exact r_ldC (o := 8) h rfl K.u_string rfl 6 rfl | exact r_load h rfl K.u_string rfl 0 rfl rfl | exact r_load h rfl K.u_string rfl 1 rfl rfl | exact r_load h rfl K.u_string rfl 2 rfl rfl | exact r_load h rfl K.u_string rfl 3 rfl rfl | exact r_load h rfl K.u_string rfl 4 rfl rfl | exact r_load h rfl K.u_string rfl 5 rfl rfl | exact r_load1 h rfl K.u_string rfl (by assumption)) rfl ?_
    clear h a w; intro a w h
    refine wvG h (by first | exact .t rfl | exact .f rfl | exact .gt rfl | exact .gf rfl) (fun hg => by (try simp only [↓gval_on hg, ↓gval_and hg] at h); (have hg2 := hg; (try simp only [Bool.and_eq_true, Bool.or_eq_true, Bool.not_eq_true', decide_eq_true_eq, decide_eq_false_iff_not] at hg2)); first | exact r_strne h rfl rfl) rfl ?_
    clear h a w; intro a w h
    first
        | (refine wv h (r_pickA h rfl rfl rfl) rfl ?_)
        | (refine wv h (r_pickO h rfl rfl rfl) rfl ?_)
        | (refine wv h (r_pick_true h rfl rfl) rfl ?_)
        | (refine wv h (r_pick_false h rfl rfl) rfl ?_)
        | (refine wv h (r_pick h rfl rfl rfl) rfl ?_)
    clear h a w; intro a w h
    refine wv h (r_move h rfl) rfl ?_
    clear h a w; intro a w h
    refine wvG h (by first | exact .t rfl | exact .f rfl | exact .gt rfl | exact .gf rfl) (fun hg => by (try simp only [↓gval_on hg, ↓gval_and hg] at h); (have hg2 := hg; (try simp only [Bool.and_eq_true, Bool.or_eq_true, Bool.not_eq_true', decide_eq_true_eq, decide_eq_false_iff_not] at hg2)); first | exact r_fieldAddr h 9 rfl K.u_api_Elem rfl K.sz_string rfl rfl) rfl ?_
    clear h a w; intro a w h
    refine wvG h (by first | exact .t rfl | exact .f rfl | exact .gt rfl | exact .gf rfl) (fun hg => by (try simp only [↓gval_on hg, ↓gval_and hg] at h); (have hg2 := hg; (try simp only [Bool.and_eq_true, Bool.or_eq_true, Bool.not_eq_true', decide_eq_true_eq, decide_eq_false_iff_not] at hg2)); first | exact r_ldN h rfl K.u_string rfl 0 rfl rfl | exact r_ldN h rfl K.u_string rfl 1 rfl rfl | exact r_ldN h rfl K.u_string rfl 2 rfl rfl | exact r_ldN h rfl K.u_string rfl 3 rfl rfl | exact r_ldN h rfl K.u_string rfl 4 rfl rfl | exact r_ldN h rfl K.u_string rfl 5 rfl rfl | exact r_ldN h rfl K.u_string rfl 6 rfl rfl | exact r_ldC (o := 9) h rfl K.u_string rfl 0 rfl | exact r_ldC (o := 9) h rfl K.u_string rfl 1 rfl | exact r_ldC (o := 9) h rfl K.u_string rfl 2 rfl | exact r_ldC (o := 9) h rfl K.u_string rfl 3 rfl | exact r_ldC (o := 9) h rfl K.u_string rfl 4 rfl | exact r_ldC (o := 9) h rfl K.u_string rfl 5 rfl | exact r_ldC (o := 9) h rfl K.u_string rfl 6 rfl | exact r_load h rfl K.u_string rfl 0 rfl rfl | exact r_load h rfl K.u_string rfl 1 rfl rfl | exact r_load h rfl K.u_string rfl 2 rfl rfl | exact r_load h rfl K.u_string rfl 3 rfl rfl | exact r_load h rfl K.u_string rfl 4 rfl rfl | exact r_load h rfl K.u_string rfl 5 rfl rfl | exact r_load1 h rfl K.u_string rfl (by assumption)) rfl ?_
    clear h a w; intro a w h
    refine wvG h (by first | exact .t rfl | exact .f rfl | exact .gt rfl | exact .gf rfl) (fun hg => by (try simp only [↓gval_on hg, ↓gval_and hg] at h); (have hg2 := hg; (try simp only [Bool.and_eq_true, Bool.or_eq_true, Bool.not_eq_true', decide_eq_true_eq, decide_eq_false_iff_not] at hg2)); first | exact r_strne h rfl rfl) rfl ?_
    clear h a w; intro a w h
    first
        | (refine wv h (r_pickA h rfl rfl rfl) rfl ?_)
        | (refine wv h (r_pickO h rfl rfl rfl) rfl ?_)
        | (refine wv h (r_pick_true h rfl rfl) rfl ?_)
        | (refine wv h (r_pick_false h rfl rfl) rfl ?_)
        | (refine wv h (r_pick h rfl rfl rfl) rfl ?_)
    clear h a w; intro a w h
    refine wv h (r_assign h rfl) rfl ?_
    clear h a w; intro a w h
    refine wnil (c_then ?_)
    refine c_seq (c_region ?_)
    refine wv h (r_fieldAddr h 1 rfl K.u_api_Elem rfl K.sz_uint8 rfl rfl) rfl ?_
    clear h a w; intro a w h
    first
        | (refine wv h (r_ldN h rfl K.u_uint8 rfl 0 rfl rfl) rfl ?_)
        | (refine wv h (r_ldN h rfl K.u_uint8 rfl 1 rfl rfl) rfl ?_)
        | (refine wv h (r_ldN h rfl K.u_uint8 rfl 2 rfl rfl) rfl ?_)
        | (refine wv h (r_ldN h rfl K.u_uint8 rfl 3 rfl rfl) rfl ?_)
        | (refine wv h (r_ldN h rfl K.u_uint8 rfl 4 rfl rfl) rfl ?_)
        | (refine wv h (r_ldN h rfl K.u_uint8 rfl 5 rfl rfl) rfl ?_)
        | (refine wv h (r_ldN h rfl K.u_uint8 rfl 6 rfl rfl) rfl ?_)
        | (refine wv h (r_ldC (o := 1) h rfl K.u_uint8 rfl 0 rfl) rfl ?_)
        | (refine wv h (r_ldC (o := 1) h rfl K.u_uint8 rfl 1 rfl) rfl ?_)
        | (refine wv h (r_ldC (o := 1) h rfl K.u_uint8 rfl 2 rfl) rfl ?_)
        | (refine wv h (r_ldC (o := 1) h rfl K.u_uint8 rfl 3 rfl) rfl ?_)
        | (refine wv h (r_ldC (o := 1) h rfl K.u_uint8 rfl 4 rfl) rfl ?_)
        | (refine wv h (r_ldC (o := 1) h rfl K.u_uint8 rfl 5 rfl) rfl ?_)
        | (refine wv h (r_ldC (o := 1) h rfl K.u_uint8 rfl 6 rfl) rfl ?_)
        | (refine wv h (r_load h rfl K.u_uint8 rfl 0 rfl rfl) rfl ?_)
        | (refine wv h (r_load h rfl K.u_uint8 rfl 1 rfl rfl) rfl ?_)
        | (refine wv h (r_load h rfl K.u_uint8 rfl 2 rfl rfl) rfl ?_)
        | (refine wv h (r_load h rfl K.u_uint8 rfl 3 rfl rfl) rfl ?_)
        | (refine wv h (r_load h rfl K.u_uint8 rfl 4 rfl rfl) rfl ?_)
        | (refine wv h (r_load h rfl K.u_uint8 rfl 5 rfl rfl) rfl ?_)
        | (refine wv h (r_load1 h rfl K.u_uint8 rfl (by assumption)) rfl ?_)
    clear h a w; intro a w h
    refine wv h (r_bin h rfl rfl (B.lss_u8 (y := 1))) rfl ?_
    clear h a w; intro a w h
    refine wv h (r_move h rfl) rfl ?_
    clear h a w; intro a w h
    refine wvG h (by first | exact .t rfl | exact .f rfl | exact .gt rfl | exact .gf rfl) (fun hg => by (try simp only [↓gval_on hg, ↓gval_and hg] at h); (have hg2 := hg; (try simp only [Bool.and_eq_true, Bool.or_eq_true, Bool.not_eq_true', decide_eq_true_eq, decide_eq_false_iff_not] at hg2)); first | exact r_fieldAddr h 1 rfl K.u_api_Elem rfl K.sz_uint8 rfl rfl) rfl ?_
    clear h a w; intro a w h
    refine wvG h (by first | exact .t rfl | exact .f rfl | exact .gt rfl | exact .gf rfl) (fun hg => by (try simp only [↓gval_on hg, ↓gval_and hg] at h); (have hg2 := hg; (try simp only [Bool.and_eq_true, Bool.or_eq_true, Bool.not_eq_true', decide_eq_true_eq, decide_eq_false_iff_not] at hg2)); first | exact r_ldN h rfl K.u_uint8 rfl 0 rfl rfl | exact r_ldN h rfl K.u_uint8 rfl 1 rfl rfl | exact r_ldN h rfl K.u_uint8 rfl 2 rfl rfl | exact r_ldN h rfl K.u_uint8 rfl 3 rfl rfl | exact r_ldN h rfl K.u_uint8 rfl 4 rfl rfl | exact r_ldN h rfl K.u_uint8 rfl 5 rfl rfl | exact r_ldN h rfl K.u_uint8 rfl 6 rfl rfl | exact r_ldC (o := 1) h rfl K.u_uint8 rfl 0 rfl | exact r_ldC (o := 1) h rfl K.u_uint8 rfl 1 rfl | exact r_ldC (o := 1) h rfl K.u_uint8 rfl 2 rfl | exact r_ldC (o := 1) h rfl K.u_uint8 rfl 3 rfl | exact r_ldC (o := 1) h rfl K.u_uint8 rfl 4 rfl | exact r_ldC (o := 1) h rfl K.u_uint8 rfl 5 rfl | exact r_ldC (o := 1) h rfl K.u_uint8 rfl 6 rfl | exact r_load h rfl K.u_uint8 rfl 0 rfl rfl | exact r_load h rfl K.u_uint8 rfl 1 rfl rfl | exact r_load h rfl K.u_uint8 rfl 2 rfl rfl | exact r_load h rfl K.u_uint8 rfl 3 rfl rfl | exact r_load h rfl K.u_uint8 rfl 4 rfl rfl | exact r_load h rfl K.u_uint8 rfl 5 rfl rfl | exact r_load1 h rfl K.u_uint8 rfl (by assumption)) rfl ?_
    clear h a w; intro a w h
    refine wvG h (by first | exact .t rfl | exact .f rfl | exact .gt rfl | exact .gf rfl) (fun hg => by (try simp only [↓gval_on hg, ↓gval_and hg] at h); (have hg2 := hg; (try simp only [Bool.and_eq_true, Bool.or_eq_true, Bool.not_eq_true', decide_eq_true_eq, decide_eq_false_iff_not] at hg2)); first | exact r_bin h rfl rfl (B.gtr_u8 (y := 5))) rfl ?_
    clear h a w; intro a w h
    first
        | (refine wv h (r_pickA h rfl rfl rfl) rfl ?_)
        | (refine wv h (r_pickO h rfl rfl rfl) rfl ?_)
        | (refine wv h (r_pick_true h rfl rfl) rfl ?_)
        | (refine wv h (r_pick_false h rfl rfl) rfl ?_)
        | (refine wv h (r_pick h rfl rfl rfl) rfl ?_)
    clear h a w; intro a w h
    refine wv h (r_move h rfl) rfl ?_
    clear h a w; intro a w h
    refine wvG h (by first | exact .t rfl | exact .f rfl | exact .gt rfl | exact .gf rfl) (fun hg => by (try simp only [↓gval_on hg, ↓gval_and hg] at h); (have hg2 := hg; (try simp only [Bool.and_eq_true, Bool.or_eq_true, Bool.not_eq_true', decide_eq_true_eq, decide_eq_false_iff_not] at hg2)); first | exact r_fieldAddr h 1 rfl K.u_api_Elem rfl K.sz_uint8 rfl rfl) rfl ?_
    clear h a w; intro a w h
    refine wvG h (by first | exact .t rfl | exact .f rfl | exact .gt rfl | exact .gf rfl) (fun hg => by (try simp only [↓gval_on hg, ↓gval_and hg] at h); (have hg2 := hg; (try simp only [Bool.and_eq_true, Bool.or_eq_true, Bool.not_eq_true', decide_eq_true_eq, decide_eq_false_iff_not] at hg2)); first | exact r_ldN h rfl K.u_uint8 rfl 0 rfl rfl | exact r_ldN h rfl K.u_uint8 rfl 1 rfl rfl | exact r_ldN h rfl K.u_uint8 rfl 2 rfl rfl | exact r_ldN h rfl K.u_uint8 rfl 3 rfl rfl | exact r_ldN h rfl K.u_uint8 rfl 4 rfl rfl | exact r_ldN h rfl K.u_uint8 rfl 5 rfl rfl | exact r_ldN h rfl K.u_uint8 rfl 6 rfl rfl | exact r_ldC (o := 1) h rfl K.u_uint8 rfl 0 rfl | exact r_ldC (o := 1) h rfl K.u_uint8 rfl 1 rfl | exact r_ldC (o := 1) h rfl K.u_uint8 rfl 2 rfl | exact r_ldC (o := 1) h rfl K.u_uint8 rfl 3 rfl | exact r_ldC (o := 1) h rfl K.u_uint8 rfl 4 rfl | exact r_ldC (o := 1) h rfl K.u_uint8 rfl 5 rfl | exact r_ldC (o := 1) h rfl K.u_uint8 rfl 6 rfl | exact r_load h rfl K.u_uint8 rfl 0 rfl rfl | exact r_load h rfl K.u_uint8 rfl 1 rfl rfl | exact r_load h rfl K.u_uint8 rfl 2 rfl rfl | exact r_load h rfl K.u_uint8 rfl 3 rfl rfl | exact r_load h rfl K.u_uint8 rfl 4 rfl rfl | exact r_load h rfl K.u_uint8 rfl 5 rfl rfl | exact r_load1 h rfl K.u_uint8 rfl (by assumption)) rfl ?_
    clear h a w; intro a w h
    refine wvG h (by first | exact .t rfl | exact .f rfl | exact .gt rfl | exact .gf rfl) (fun hg => by (try simp only [↓gval_on hg, ↓gval_and hg] at h); (have hg2 := hg; (try simp only [Bool.and_eq_true, Bool.or_eq_true, Bool.not_eq_true', decide_eq_true_eq, decide_eq_false_iff_not] at hg2)); first | exact r_bin h rfl rfl (B.neq_u8 (y := 5))) rfl ?_
    clear h a w; intro a w h
    refine wvG h (by first | exact .t rfl | exact .f rfl | exact .gt rfl | exact .gf rfl) (fun hg => by (try simp only [↓gval_on hg, ↓gval_and hg] at h); (have hg2 := hg; (try simp only [Bool.and_eq_true, Bool.or_eq_true, Bool.not_eq_true', decide_eq_true_eq, decide_eq_false_iff_not] at hg2)); first | exact r_move h rfl) rfl ?_
    clear h a w; intro a w h
    refine wvG h (by first | exact .t rfl | exact .f rfl | exact .gt rfl | exact .gf rfl) (fun hg => by (try simp only [↓gval_on hg, ↓gval_and hg] at h); (have hg2 := hg; (try simp only [Bool.and_eq_true, Bool.or_eq_true, Bool.not_eq_true', decide_eq_true_eq, decide_eq_false_iff_not] at hg2)); first | exact r_move h rfl) rfl ?_
    clear h a w; intro a w h
    refine wvG h (by first | exact .t rfl | exact .f rfl | exact .gt rfl | exact .gf rfl) (fun hg => by (try simp only [↓gval_on hg, ↓gval_and hg] at h); (have hg2 := hg; (try simp only [Bool.and_eq_true, Bool.or_eq_true, Bool.not_eq_true', decide_eq_true_eq, decide_eq_false_iff_not] at hg2)); first | exact r_pickA h rfl rfl rfl | exact r_pickO h rfl rfl rfl | exact r_pick_true h rfl rfl | exact r_pick_false h rfl rfl | exact r_pick h rfl rfl rfl) rfl ?_
    clear h a w; intro a w h
    first
        | (refine wv h (r_pickA h rfl rfl rfl) rfl ?_)
        | (refine wv h (r_pickO h rfl rfl rfl) rfl ?_)
        | (refine wv h (r_pick_true h rfl rfl) rfl ?_)
        | (refine wv h (r_pick_false h rfl rfl) rfl ?_)
        | (refine wv h (r_pick h rfl rfl rfl) rfl ?_)
    clear h a w; intro a w h
    refine wv h (r_move h rfl) rfl ?_
    clear h a w; intro a w h
    refine wvG h (by first | exact .t rfl | exact .f rfl | exact .gt rfl | exact .gf rfl) (fun hg => by (try simp only [↓gval_on hg, ↓gval_and hg] at h); (have hg2 := hg; (try simp only [Bool.and_eq_true, Bool.or_eq_true, Bool.not_eq_true', decide_eq_true_eq, decide_eq_false_iff_not] at hg2)); first | exact r_fieldAddr h 1 rfl K.u_api_Elem rfl K.sz_uint8 rfl rfl) rfl ?_
    clear h a w; intro a w h
    refine wvG h (by first | exact .t rfl | exact .f rfl | exact .gt rfl | exact .gf rfl) (fun hg => by (try simp only [↓gval_on hg, ↓gval_and hg] at h); (have hg2 := hg; (try simp only [Bool.and_eq_true, Bool.or_eq_true, Bool.not_eq_true', decide_eq_true_eq, decide_eq_false_iff_not] at hg2)); first | exact r_ldN h rfl K.u_uint8 rfl 0 rfl rfl | exact r_ldN h rfl K.u_uint8 rfl 1 rfl rfl | exact r_ldN h rfl K.u_uint8 rfl 2 rfl rfl | exact r_ldN h rfl K.u_uint8 rfl 3 rfl rfl | exact r_ldN h rfl K.u_uint8 rfl 4 rfl rfl | exact r_ldN h rfl K.u_uint8 rfl 5 rfl rfl | exact r_ldN h rfl K.u_uint8 rfl 6 rfl rfl | exact r_ldC (o := 1) h rfl K.u_uint8 rfl 0 rfl | exact r_ldC (o := 1) h rfl K.u_uint8 rfl 1 rfl | exact r_ldC (o := 1) h rfl K.u_uint8 rfl 2 rfl | exact r_ldC (o := 1) h rfl K.u_uint8 rfl 3 rfl | exact r_ldC (o := 1) h rfl K.u_uint8 rfl 4 rfl | exact r_ldC (o := 1) h rfl K.u_uint8 rfl 5 rfl | exact r_ldC (o := 1) h rfl K.u_uint8 rfl 6 rfl | exact r_load h rfl K.u_uint8 rfl 0 rfl rfl | exact r_load h rfl K.u_uint8 rfl 1 rfl rfl | exact r_load h rfl K.u_uint8 rfl 2 rfl rfl | exact r_load h rfl K.u_uint8 rfl 3 rfl rfl | exact r_load h rfl K.u_uint8 rfl 4 rfl rfl | exact r_load h rfl K.u_uint8 rfl 5 rfl rfl | exact r_load1 h rfl K.u_uint8 rfl (by assumption)) rfl ?_
    clear h a w; intro a w h
    refine wvG h (by first | exact .t rfl | exact .f rfl | exact .gt rfl | exact .gf rfl) (fun hg => by (try simp only [↓gval_on hg, ↓gval_and hg] at h); (have hg2 := hg; (try simp only [Bool.and_eq_true, Bool.or_eq_true, Bool.not_eq_true', decide_eq_true_eq, decide_eq_false_iff_not] at hg2)); first | exact r_bin h rfl rfl (B.eql_u8 (y := 5))) rfl ?_
    clear h a w; intro a w h
    refine wvG h (by first | exact .t rfl | exact .f rfl | exact .gt rfl | exact .gf rfl) (fun hg => by (try simp only [↓gval_on hg, ↓gval_and hg] at h); (have hg2 := hg; (try simp only [Bool.and_eq_true, Bool.or_eq_true, Bool.not_eq_true', decide_eq_true_eq, decide_eq_false_iff_not] at hg2)); first | exact r_move h rfl) rfl ?_
    clear h a w; intro a w h
    refine wvG h (by first | exact .t rfl | exact .f rfl | exact .gt rfl | exact .gf rfl) (fun hg => by (try simp only [↓gval_on hg, ↓gval_and hg] at h); (have hg2 := hg; (try simp only [Bool.and_eq_true, Bool.or_eq_true, Bool.not_eq_true', decide_eq_true_eq, decide_eq_false_iff_not] at hg2)); first | exact r_fieldAddr h 2 rfl K.u_api_Elem rfl K.sz_int rfl rfl) rfl ?_
    clear h a w; intro a w h
    refine wvG h (by first | exact .t rfl | exact .f rfl | exact .gt rfl | exact .gf rfl) (fun hg => by (try simp only [↓gval_on hg, ↓gval_and hg] at h); (have hg2 := hg; (try simp only [Bool.and_eq_true, Bool.or_eq_true, Bool.not_eq_true', decide_eq_true_eq, decide_eq_false_iff_not] at hg2)); first | exact r_ldN h rfl K.u_int rfl 0 rfl rfl | exact r_ldN h rfl K.u_int rfl 1 rfl rfl | exact r_ldN h rfl K.u_int rfl 2 rfl rfl | exact r_ldN h rfl K.u_int rfl 3 rfl rfl | exact r_ldN h rfl K.u_int rfl 4 rfl rfl | exact r_ldN h rfl K.u_int rfl 5 rfl rfl | exact r_ldN h rfl K.u_int rfl 6 rfl rfl | exact r_ldC (o := 2) h rfl K.u_int rfl 0 rfl | exact r_ldC (o := 2) h rfl K.u_int rfl 1 rfl | exact r_ldC (o := 2) h rfl K.u_int rfl 2 rfl | exact r_ldC (o := 2) h rfl K.u_int rfl 3 rfl | exact r_ldC (o := 2) h rfl K.u_int rfl 4 rfl | exact r_ldC (o := 2) h rfl K.u_int rfl 5 rfl | exact r_ldC (o := 2) h rfl K.u_int rfl 6 rfl | exact r_load h rfl K.u_int rfl 0 rfl rfl | exact r_load h rfl K.u_int rfl 1 rfl rfl | exact r_load h rfl K.u_int rfl 2 rfl rfl | exact r_load h rfl K.u_int rfl 3 rfl rfl | exact r_load h rfl K.u_int rfl 4 rfl rfl | exact r_load h rfl K.u_int rfl 5 rfl rfl | exact r_load1 h rfl K.u_int rfl (by assumption)) rfl ?_
    clear h a w; intro a w h
    refine wvG h (by first | exact .t rfl | exact .f rfl | exact .gt rfl | exact .gf rfl) (fun hg => by (try simp only [↓gval_on hg, ↓gval_and hg] at h); (have hg2 := hg; (try simp only [Bool.and_eq_true, Bool.or_eq_true, Bool.not_eq_true', decide_eq_true_eq, decide_eq_false_iff_not] at hg2)); first | exact r_bin h rfl rfl (B.neq_int)) rfl ?_
    clear h a w; intro a w h
    refine wvG h (by first | exact .t rfl | exact .f rfl | exact .gt rfl | exact .gf rfl) (fun hg => by (try simp only [↓gval_on hg, ↓gval_and hg] at h); (have hg2 := hg; (try simp only [Bool.and_eq_true, Bool.or_eq_true, Bool.not_eq_true', decide_eq_true_eq, decide_eq_false_iff_not] at hg2)); first | exact r_move h rfl) rfl ?_
    clear h a w; intro a w h
    refine wvG h (by first | exact .t rfl | exact .f rfl | exact .gt rfl | exact .gf rfl) (fun hg => by (try simp only [↓gval_on hg, ↓gval_and hg] at h); (have hg2 := hg; (try simp only [Bool.and_eq_true, Bool.or_eq_true, Bool.not_eq_true', decide_eq_true_eq, decide_eq_false_iff_not] at hg2)); first | exact r_fieldAddr h 4 rfl K.u_api_Elem rfl K.sz_string rfl rfl) rfl ?_
    clear h a w; intro a w h
    refine wvG h (by first | exact .t rfl | exact .f rfl | exact .gt rfl | exact .gf rfl) (fun hg => by (try simp only [↓gval_on hg, ↓gval_and hg] at h); (have hg2 := hg; (try simp only [Bool.and_eq_true, Bool.or_eq_true, Bool.not_eq_true', decide_eq_true_eq, decide_eq_false_iff_not] at hg2)); first | exact r_ldN h rfl K.u_string rfl 0 rfl rfl | exact r_ldN h rfl K.u_string rfl 1 rfl rfl | exact r_ldN h rfl K.u_string rfl 2 rfl rfl | exact r_ldN h rfl K.u_string rfl 3 rfl rfl | exact r_ldN h rfl K.u_string rfl 4 rfl rfl | exact r_ldN h rfl K.u_string rfl 5 rfl rfl | exact r_ldN h rfl K.u_string rfl 6 rfl rfl | exact r_ldC (o := 4) h rfl K.u_string rfl 0 rfl | exact r_ldC (o := 4) h rfl K.u_string rfl 1 rfl | exact r_ldC (o := 4) h rfl K.u_string rfl 2 rfl | exact r_ldC (o := 4) h rfl K.u_string rfl 3 rfl | exact r_ldC (o := 4) h rfl K.u_string rfl 4 rfl | exact r_ldC (o := 4) h rfl K.u_string rfl 5 rfl | exact r_ldC (o := 4) h rfl K.u_string rfl 6 rfl | exact r_load h rfl K.u_string rfl 0 rfl rfl | exact r_load h rfl K.u_string rfl 1 rfl rfl | exact r_load h rfl K.u_string rfl 2 rfl rfl | exact r_load h rfl K.u_string rfl 3 rfl rfl | exact r_load h rfl K.u_string rfl 4 rfl rfl | exact r_load h rfl K.u_string rfl 5 rfl rfl | exact r_load1 h rfl K.u_string rfl (by assumption)) rfl ?_
    clear h a w; intro a w h
    refine wvG h (by first | exact .t rfl | exact .f rfl | exact .gt rfl | exact .gf rfl) (fun hg => by (try simp only [↓gval_on hg, ↓gval_and hg] at h); (have hg2 := hg; (try simp only [Bool.and_eq_true, Bool.or_eq_true, Bool.not_eq_true', decide_eq_true_eq, decide_eq_false_iff_not] at hg2)); first | exact r_strne h rfl rfl) rfl ?_
    clear h a w; intro a w h
    refine wvG h (by first | exact .t rfl | exact .f rfl | exact .gt rfl | exact .gf rfl) (fun hg => by (try simp only [↓gval_on hg, ↓gval_and hg] at h); (have hg2 := hg; (try simp only [Bool.and_eq_true, Bool.or_eq_true, Bool.not_eq_true', decide_eq_true_eq, decide_eq_false_iff_not] at hg2)); first | exact r_pickA h rfl rfl rfl | exact r_pickO h rfl rfl rfl | exact r_pick_true h rfl rfl | exact r_pick_false h rfl rfl | exact r_pick h rfl rfl rfl) rfl ?_
    clear h a w; intro a w h
    refine wvG h (by first | exact .t rfl | exact .f rfl | exact .gt rfl | exact .gf rfl) (fun hg => by (try simp only [↓gval_on hg, ↓gval_and hg] at h); (have hg2 := hg; (try simp only [Bool.and_eq_true, Bool.or_eq_true, Bool.not_eq_true', decide_eq_true_eq, decide_eq_false_iff_not] at hg2)); first | exact r_pickA h rfl rfl rfl | exact r_pickO h rfl rfl rfl | exact r_pick_true h rfl rfl | exact r_pick_false h rfl rfl | exact r_pick h rfl rfl rfl) rfl ?_
    clear h a w; intro a w h
    first
        | (refine wv h (r_pickA h rfl rfl rfl) rfl ?_)
        | (refine wv h (r_pickO h rfl rfl rfl) rfl ?_)
        | (refine wv h (r_pick_true h rfl rfl) rfl ?_)
        | (refine wv h (r_pick_false h rfl rfl) rfl ?_)
        | (refine wv h (r_pick h rfl rfl rfl) rfl ?_)
    clear h a w; intro a w h
    refine wv h (r_move h rfl) rfl ?_
    clear h a w; intro a w h
    refine wvG h (by first | exact .t rfl | exact .f rfl | exact .gt rfl | exact .gf rfl) (fun hg => by (try simp only [↓gval_on hg, ↓gval_and hg] at h); (have hg2 := hg; (try simp only [Bool.and_eq_true, Bool.or_eq_true, Bool.not_eq_true', decide_eq_true_eq, decide_eq_false_iff_not] at hg2)); first | exact r_fieldAddr h 1 rfl K.u_api_Elem rfl K.sz_uint8 rfl rfl) rfl ?_
    clear h a w; intro a w h
    refine wvG h (by first | exact .t rfl | exact .f rfl | exact .gt rfl | exact .gf rfl) (fun hg => by (try simp only [↓gval_on hg, ↓gval_and hg] at h); (have hg2 := hg; (try simp only [Bool.and_eq_true, Bool.or_eq_true, Bool.not_eq_true', decide_eq_true_eq, decide_eq_false_iff_not] at hg2)); first | exact r_ldN h rfl K.u_uint8 rfl 0 rfl rfl | exact r_ldN h rfl K.u_uint8 rfl 1 rfl rfl | exact r_ldN h rfl K.u_uint8 rfl 2 rfl rfl | exact r_ldN h rfl K.u_uint8 rfl 3 rfl rfl | exact r_ldN h rfl K.u_uint8 rfl 4 rfl rfl | exact r_ldN h rfl K.u_uint8 rfl 5 rfl rfl | exact r_ldN h rfl K.u_uint8 rfl 6 rfl rfl | exact r_ldC (o := 1) h rfl K.u_uint8 rfl 0 rfl | exact r_ldC (o := 1) h rfl K.u_uint8 rfl 1 rfl | exact r_ldC (o := 1) h rfl K.u_uint8 rfl 2 rfl | exact r_ldC (o := 1) h rfl K.u_uint8 rfl 3 rfl | exact r_ldC (o := 1) h rfl K.u_uint8 rfl 4 rfl | exact r_ldC (o := 1) h rfl K.u_uint8 rfl 5 rfl | exact r_ldC (o := 1) h rfl K.u_uint8 rfl 6 rfl | exact r_load h rfl K.u_uint8 rfl 0 rfl rfl | exact r_load h rfl K.u_uint8 rfl 1 rfl rfl | exact r_load h rfl K.u_uint8 rfl 2 rfl rfl | exact r_load h rfl K.u_uint8 rfl 3 rfl rfl | exact r_load h rfl K.u_uint8 rfl 4 rfl rfl | exact r_load h rfl K.u_uint8 rfl 5 rfl rfl | exact r_load1 h rfl K.u_uint8 rfl (by assumption)) rfl ?_
    clear h a w; intro a w h
    refine wvG h (by first | exact .t rfl | exact .f rfl | exact .gt rfl | exact .gf rfl) (fun hg => by (try simp only [↓gval_on hg, ↓gval_and hg] at h); (have hg2 := hg; (try simp only [Bool.and_eq_true, Bool.or_eq_true, Bool.not_eq_true', decide_eq_true_eq, decide_eq_false_iff_not] at hg2)); first | exact r_bin h rfl rfl (B.gtr_u8 (y := 2))) rfl ?_
    clear h a w; intro a w h
    refine wvG h (by first | exact .t rfl | exact .f rfl | exact .gt rfl | exact .gf rfl) (fun hg => by (try simp only [↓gval_on hg, ↓gval_and hg] at h); (have hg2 := hg; (try simp only [Bool.and_eq_true, Bool.or_eq_true, Bool.not_eq_true', decide_eq_true_eq, decide_eq_false_iff_not] at hg2)); first | exact r_move h rfl) rfl ?_
    clear h a w; intro a w h
    refine wvG h (by first | exact .t rfl | exact .f rfl | exact .gt rfl | exact .gf rfl) (fun hg => by (try simp only [↓gval_on hg, ↓gval_and hg] at h); (have hg2 := hg; (try simp only [Bool.and_eq_true, Bool.or_eq_true, Bool.not_eq_true', decide_eq_true_eq, decide_eq_false_iff_not] at hg2)); first | exact r_fieldAddr h 4 rfl K.u_api_Elem rfl K.sz_string rfl rfl) rfl ?_
    clear h a w; intro a w h
    refine wvG h (by first | exact .t rfl | exact .f rfl | exact .gt rfl | exact .gf rfl) (fun hg => by (try simp only [↓gval_on hg, ↓gval_and hg] at h); (have hg2 := hg; (try simp only [Bool.and_eq_true, Bool.or_eq_true, Bool.not_eq_true', decide_eq_true_eq, decide_eq_false_iff_not] at hg2)); first | exact r_ldN h rfl K.u_string rfl 0 rfl rfl | exact r_ldN h rfl K.u_string rfl 1 rfl rfl | exact r_ldN h rfl K.u_string rfl 2 rfl rfl | exact r_ldN h rfl K.u_string rfl 3 rfl rfl | exact r_ldN h rfl K.u_string rfl 4 rfl rfl | exact r_ldN h rfl K.u_string rfl 5 rfl rfl | exact r_ldN h rfl K.u_string rfl 6 rfl rfl | exact r_ldC (o := 4) h rfl K.u_string rfl 0 rfl | exact r_ldC (o := 4) h rfl K.u_string rfl 1 rfl | exact r_ldC (o := 4) h rfl K.u_string rfl 2 rfl | exact r_ldC (o := 4) h rfl K.u_string rfl 3 rfl | exact r_ldC (o := 4) h rfl K.u_string rfl 4 rfl | exact r_ldC (o := 4) h rfl K.u_string rfl 5 rfl | exact r_ldC (o := 4) h rfl K.u_string rfl 6 rfl | exact r_load h rfl K.u_string rfl 0 rfl rfl | exact r_load h rfl K.u_string rfl 1 rfl rfl | exact r_load h rfl K.u_string rfl 2 rfl rfl | exact r_load h rfl K.u_string rfl 3 rfl rfl | exact r_load h rfl K.u_string rfl 4 rfl rfl | exact r_load h rfl K.u_string rfl 5 rfl rfl | exact r_load1 h rfl K.u_string rfl (by assumption)) rfl ?_
    clear h a w; intro a w h
    refine wvG h (by first | exact .t rfl | exact .f rfl | exact .gt rfl | exact .gf rfl) (fun hg => by (try simp only [↓gval_on hg, ↓gval_and hg] at h); (have hg2 := hg; (try simp only [Bool.and_eq_true, Bool.or_eq_true, Bool.not_eq_true', decide_eq_true_eq, decide_eq_false_iff_not] at hg2)); first | exact r_strne h rfl rfl) rfl ?_
    clear h a w; intro a w h
    refine wvG h (by first | exact .t rfl | exact .f rfl | exact .gt rfl | exact .gf rfl) (fun hg => by (try simp only [↓gval_on hg, ↓gval_and hg] at h); (have hg2 := hg; (try simp only [Bool.and_eq_true, Bool.or_eq_true, Bool.not_eq_true', decide_eq_true_eq, decide_eq_false_iff_not] at hg2)); first | exact r_pickA h rfl rfl rfl | exact r_pickO h rfl rfl rfl | exact r_pick_true h rfl rfl | exact r_pick_false h rfl rfl | exact r_pick h rfl rfl rfl) rfl ?_
    clear h a w; intro a w h
    first
        | (refine wv h (r_pickA h rfl rfl rfl) rfl ?_)
        | (refine wv h (r_pickO h rfl rfl rfl) rfl ?_)
        | (refine wv h (r_pick_true h rfl rfl) rfl ?_)
        | (refine wv h (r_pick_false h rfl rfl) rfl ?_)
        | (refine wv h (r_pick h rfl rfl rfl) rfl ?_)
    clear h a w; intro a w h
    refine wv h (r_assign h rfl) rfl ?_
    clear h a w; intro a w h
    refine wnil (c_then ?_)
    refine c_ret ?_
    exact ret1 h rfl rfl ⟨(), rfl, h.2.drop 1, trivial⟩
  ·
   refine c_seq (c_region ?_)
   refine wv h (r_bin h rfl rfl (B.eql_int)) rfl ?_
   clear h a w; intro a w h
   refine wv h (r_assign h rfl) rfl ?_
   clear h a w; intro a w h
   refine wnil (c_then ?_)
   first
    | refine c_condD h rfl (fun ht2 => ?_) (fun ht2 => ?_)
    | refine c_condP h rfl (by first | (simp only [Bool.and_eq_true, Bool.or_eq_true, Bool.not_eq_true', decide_eq_true_eq, decide_eq_false_iff_not, ne_eq, Bool.not_eq_eq_eq_not, Bool.not_true, beq_iff_eq, bne_iff_ne]; exact Iff.rfl) | exact Iff.rfl) (fun ht2 => ?_) (fun ht2 => ?_)
   ·
    obtain rfl : r = 3 := by omega
    as_aux_lemma =>
     refine c_seq ?_
     refine c_seq (c_region ?_)
     refine wv h (r_assign h rfl) rfl ?_
     clear h a w; intro a w h
     refine wnil (c_then ?_)
     refine c_block ?_
     refine c_loopX h (X := Nat) (fun i => [(0, v), (4, .pointer (some ⟨b4, 0, none⟩)), (8, .int .i64 (i : Int))]) (fun _ => Blk b4 (.cells ⟨cellsE e⟩ t_api_Elem) :: F) (fun i => i ≤ l.length ∧ (l.drop i).any (hit3 e) = l.any (hit3 e)) (fun i => l.length - i) 0 (h.keep [0, 4, 8]) ⟨Nat.zero_le _, rfl⟩ ?_
     clear h a w; intro i a w hx h
     obtain ⟨hx1, hx2⟩ := hx
     as_aux_lemma =>
      refine c_seq ?_
      refine c_seq (c_region ?_)
      refine wv h (r_move h rfl) rfl ?_
      clear h a w; intro a w h
      refine wv h (r_move h rfl) rfl ?_
      clear h a w; intro a w h
      refine wv h (r_lenV h rfl K.u_api_Chart (by first | exact Views.own 0 rfl | exact Views.own 1 rfl | exact Views.own 2 rfl | exact Views.own 3 rfl | exact Views.own 4 rfl | exact Views.own 5 rfl | assumption | exact Views.of_drop 1 (by assumption) | exact Views.of_drop 2 (by assumption) | exact Views.of_drop 3 (by assumption) | exact Views.of_drop 4 (by assumption) | exact Views.of_drop 5 (by assumption) | exact Views.of_drop 6 (by assumption) | exact Views.of_drop 7 (by assumption) | exact Views.of_drop 8 (by assumption) | exact Views.of_drop 9 (by assumption) | exact Views.of_drop 10 (by assumption) | exact Views.of_drop 11 (by assumption) | exact Views.of_drop 12 (by assumption))) rfl ?_
      clear h a w; intro a w h
      refine wv h (r_bin h rfl rfl (B.lss_int)) rfl ?_
      clear h a w; intro a w h
      refine wnil (c_then ?_)
      first
       | refine c_condD h rfl (fun ht3 => ?_) (fun ht3 => ?_)
       | refine c_condP h rfl (by first | (simp only [Bool.and_eq_true, Bool.or_eq_true, Bool.not_eq_true', decide_eq_true_eq, decide_eq_false_iff_not, ne_eq, Bool.not_eq_eq_eq_not, Bool.not_true, beq_iff_eq, bne_iff_ne]; exact Iff.rfl) | exact Iff.rfl) (fun ht3 => ?_) (fun ht3 => ?_)
      ·
       obtain ⟨x, hex⟩ := get_some (l := l) (i := i) (by omega)
       rw [any_drop hex] at hx2
       refine c_skip ?_
       refine c_then ?_
       refine c_seq ?_
       refine c_block ?_
       refine c_seq (c_draw K.mixed (by kernel_rfl) h ?_)
       clear h a w; intro a hE
       first
              | (refine qv hE (fun w hw => r_ldA ⟨hE, hw⟩ rfl K.u_api_Elem rfl K.sz_api_Elem 0 rfl (by first | exact Row.len _ | rfl | assumption | (simp; done) | (simp; omega) | omega)) rfl ?_)
              | (refine qv hE (fun w hw => r_ldA ⟨hE, hw⟩ rfl K.u_api_Elem rfl K.sz_api_Elem 1 rfl (by first | exact Row.len _ | rfl | assumption | (simp; done) | (simp; omega) | omega)) rfl ?_)
              | (refine qv hE (fun w hw => r_ldA ⟨hE, hw⟩ rfl K.u_api_Elem rfl K.sz_api_Elem 2 rfl (by first | exact Row.len _ | rfl | assumption | (simp; done) | (simp; omega) | omega)) rfl ?_)
              | (refine qv hE (fun w hw => r_ldA ⟨hE, hw⟩ rfl K.u_api_Elem rfl K.sz_api_Elem 3 rfl (by first | exact Row.len _ | rfl | assumption | (simp; done) | (simp; omega) | omega)) rfl ?_)
              | (refine qv hE (fun w hw => r_ldA ⟨hE, hw⟩ rfl K.u_api_Elem rfl K.sz_api_Elem 4 rfl (by first | exact Row.len _ | rfl | assumption | (simp; done) | (simp; omega) | omega)) rfl ?_)
              | (refine qv hE (fun w hw => r_ldA ⟨hE, hw⟩ rfl K.u_api_Elem rfl K.sz_api_Elem 5 rfl (by first | exact Row.len _ | rfl | assumption | (simp; done) | (simp; omega) | omega)) rfl ?_)
              | (refine qv hE (fun w hw => r_loadCA ⟨hE, hw⟩ rfl K.u_api_Elem rfl K.sz_api_Elem (by assumption) (by first | rfl | assumption | (simp; done) | (simp; omega) | omega)) rfl ?_)
       clear hE a; intro a hE
       refine q_c hE rfl K.go_ref09_named (fun w hw => ref09_named s _ _ _ hw) rfl ?_
       clear hE a; intro a hE
       refine qv hE (fun w hw => r_move ⟨hE, hw⟩ rfl) rfl ?_
       clear hE a; intro a hE
       refine qvG hE (by first | exact .t rfl | exact .f rfl | exact .gt rfl | exact .gf rfl) (fun hg w hw => by (try simp only [↓gval_on hg, ↓gval_and hg] at hE); (have hg2 := hg; (try simp only [Bool.and_eq_true, Bool.or_eq_true, Bool.not_eq_true', decide_eq_true_eq, decide_eq_false_iff_not] at hg2)); first | exact r_move ⟨hE, hw⟩ rfl) rfl ?_
       clear hE a; intro a hE
       refine qvG hE (by first | exact .t rfl | exact .f rfl | exact .gt rfl | exact .gf rfl) (fun hg w hw => by (try simp only [↓gval_on hg, ↓gval_and hg] at hE); (have hg2 := hg; (try simp only [Bool.and_eq_true, Bool.or_eq_true, Bool.not_eq_true', decide_eq_true_eq, decide_eq_false_iff_not] at hg2)); first | exact r_move ⟨hE, hw⟩ rfl) rfl ?_
       clear hE a; intro a hE
       refine qvG hE (by first | exact .t rfl | exact .f rfl | exact .gt rfl | exact .gf rfl) (fun hg w hw => by (try simp only [↓gval_on hg, ↓gval_and hg] at hE); (have hg2 := hg; (try simp only [Bool.and_eq_true, Bool.or_eq_true, Bool.not_eq_true', decide_eq_true_eq, decide_eq_false_iff_not] at hg2)); first | exact r_elP ⟨hE, hw⟩ rfl rfl K.u_api_Chart K.sz_api_Elem (by first | exact Views.own 0 rfl | exact Views.own 1 rfl | exact Views.own 2 rfl | exact Views.own 3 rfl | exact Views.own 4 rfl | exact Views.own 5 rfl | assumption | exact Views.of_drop 1 (by assumption) | exact Views.of_drop 2 (by assumption) | exact Views.of_drop 3 (by assumption) | exact Views.of_drop 4 (by assumption) | exact Views.of_drop 5 (by assumption) | exact Views.of_drop 6 (by assumption) | exact Views.of_drop 7 (by assumption) | exact Views.of_drop 8 (by assumption) | exact Views.of_drop 9 (by assumption) | exact Views.of_drop 10 (by assumption) | exact Views.of_drop 11 (by assumption) | exact Views.of_drop 12 (by assumption)) (by first | omega | (simp; done)) (by first | omega | (simp only [List.length_cons, List.length_nil]; omega) | (simp; done) | (simp; omega))) rfl ?_
       clear hE a; intro a hE
       refine qvG hE (by first | exact .t rfl | exact .f rfl | exact .gt rfl | exact .gf rfl) (fun hg w hw => by (try simp only [↓gval_on hg, ↓gval_and hg] at hE); (have hg2 := hg; (try simp only [Bool.and_eq_true, Bool.or_eq_true, Bool.not_eq_true', decide_eq_true_eq, decide_eq_false_iff_not] at hg2)); first | exact r_elM ⟨hE, hw⟩ rfl K.u_api_Elem rfl K.sz_api_Elem rfl (by first | exact Views.own 0 rfl | exact Views.own 1 rfl | exact Views.own 2 rfl | exact Views.own 3 rfl | exact Views.own 4 rfl | exact Views.own 5 rfl | assumption | exact Views.of_drop 1 (by assumption) | exact Views.of_drop 2 (by assumption) | exact Views.of_drop 3 (by assumption) | exact Views.of_drop 4 (by assumption) | exact Views.of_drop 5 (by assumption) | exact Views.of_drop 6 (by assumption) | exact Views.of_drop 7 (by assumption) | exact Views.of_drop 8 (by assumption) | exact Views.of_drop 9 (by assumption) | exact Views.of_drop 10 (by assumption) | exact Views.of_drop 11 (by assumption) | exact Views.of_drop 12 (by assumption)) (by assumption) | exact r_elMd ⟨hE, hw⟩ rfl K.u_api_Elem rfl K.sz_api_Elem rfl (by first | exact Views.own 0 rfl | exact Views.own 1 rfl | exact Views.own 2 rfl | exact Views.own 3 rfl | exact Views.own 4 rfl | exact Views.own 5 rfl | assumption | exact Views.of_drop 1 (by assumption) | exact Views.of_drop 2 (by assumption) | exact Views.of_drop 3 (by assumption) | exact Views.of_drop 4 (by assumption) | exact Views.of_drop 5 (by assumption) | exact Views.of_drop 6 (by assumption) | exact Views.of_drop 7 (by assumption) | exact Views.of_drop 8 (by assumption) | exact Views.of_drop 9 (by assumption) | exact Views.of_drop 10 (by assumption) | exact Views.of_drop 11 (by assumption) | exact Views.of_drop 12 (by assumption)) (by first | omega | (simp only [List.length_cons, List.length_nil]; omega) | (simp; done) | (simp; omega))) rfl ?_
       clear hE a; intro a hE
       refine q_cG hE (by first | exact .t rfl | exact .f rfl | exact .gt rfl | exact .gf rfl) K.go_ref09_named (fun hg => by (try simp only [↓gval_on hg, ↓gval_and hg]); (have hg2 := hg; (try simp only [Bool.and_eq_true, Bool.or_eq_true, Bool.not_eq_true', decide_eq_true_eq, decide_eq_false_iff_not] at hg2)); exact ⟨_, rfl, fun w hw => ref09_named s _ _ _ hw⟩) rfl ?_
       clear hE a; intro a hE
       first
              | (refine qv hE (fun w hw => r_pickA ⟨hE, hw⟩ rfl rfl rfl) rfl ?_)
              | (refine qv hE (fun w hw => r_pickO ⟨hE, hw⟩ rfl rfl rfl) rfl ?_)
              | (refine qv hE (fun w hw => r_pick_true ⟨hE, hw⟩ rfl rfl) rfl ?_)
              | (refine qv hE (fun w hw => r_pick_false ⟨hE, hw⟩ rfl rfl) rfl ?_)
              | (refine qv hE (fun w hw => r_pick ⟨hE, hw⟩ rfl rfl rfl) rfl ?_)
       clear hE a; intro a hE
       refine qv hE (fun w hw => r_move ⟨hE, hw⟩ rfl) rfl ?_
       clear hE a; intro a hE
       refine qvG hE (by first | exact .t rfl | exact .f rfl | exact .gt rfl | exact .gf rfl) (fun hg w hw => by (try simp only [↓gval_on hg, ↓gval_and hg] at hE); (have hg2 := hg; (try simp only [Bool.and_eq_true, Bool.or_eq_true, Bool.not_eq_true', decide_eq_true_eq, decide_eq_false_iff_not] at hg2)); first | exact r_move ⟨hE, hw⟩ rfl) rfl ?_
       clear hE a; intro a hE
       refine qvG hE (by first | exact .t rfl | exact .f rfl | exact .gt rfl | exact .gf rfl) (fun hg w hw => by (try simp only [↓gval_on hg, ↓gval_and hg] at hE); (have hg2 := hg; (try simp only [Bool.and_eq_true, Bool.or_eq_true, Bool.not_eq_true', decide_eq_true_eq, decide_eq_false_iff_not] at hg2)); first | exact r_move ⟨hE, hw⟩ rfl) rfl ?_
       clear hE a; intro a hE
       refine qvG hE (by first | exact .t rfl | exact .f rfl | exact .gt rfl | exact .gf rfl) (fun hg w hw => by (try simp only [↓gval_on hg, ↓gval_and hg] at hE); (have hg2 := hg; (try simp only [Bool.and_eq_true, Bool.or_eq_true, Bool.not_eq_true', decide_eq_true_eq, decide_eq_false_iff_not] at hg2)); first | exact r_elP ⟨hE, hw⟩ rfl rfl K.u_api_Chart K.sz_api_Elem (by first | exact Views.own 0 rfl | exact Views.own 1 rfl | exact Views.own 2 rfl | exact Views.own 3 rfl | exact Views.own 4 rfl | exact Views.own 5 rfl | assumption | exact Views.of_drop 1 (by assumption) | exact Views.of_drop 2 (by assumption) | exact Views.of_drop 3 (by assumption) | exact Views.of_drop 4 (by assumption) | exact Views.of_drop 5 (by assumption) | exact Views.of_drop 6 (by assumption) | exact Views.of_drop 7 (by assumption) | exact Views.of_drop 8 (by assumption) | exact Views.of_drop 9 (by assumption) | exact Views.of_drop 10 (by assumption) | exact Views.of_drop 11 (by assumption) | exact Views.of_drop 12 (by assumption)) (by first | omega | (simp; done)) (by first | omega | (simp only [List.length_cons, List.length_nil]; omega) | (simp; done) | (simp; omega))) rfl ?_
       clear hE a; intro a hE
       refine qvG hE (by first | exact .t rfl | exact .f rfl | exact .gt rfl | exact .gf rfl) (fun hg w hw => by (try simp only [↓gval_on hg, ↓gval_and hg] at hE); (have hg2 := hg; (try simp only [Bool.and_eq_true, Bool.or_eq_true, Bool.not_eq_true', decide_eq_true_eq, decide_eq_false_iff_not] at hg2)); first | exact r_elF ⟨hE, hw⟩ 0 rfl K.u_api_Elem rfl K.sz_int rfl rfl (by first | exact Views.own 0 rfl | exact Views.own 1 rfl | exact Views.own 2 rfl | exact Views.own 3 rfl | exact Views.own 4 rfl | exact Views.own 5 rfl | assumption | exact Views.of_drop 1 (by assumption) | exact Views.of_drop 2 (by assumption) | exact Views.of_drop 3 (by assumption) | exact Views.of_drop 4 (by assumption) | exact Views.of_drop 5 (by assumption) | exact Views.of_drop 6 (by assumption) | exact Views.of_drop 7 (by assumption) | exact Views.of_drop 8 (by assumption) | exact Views.of_drop 9 (by assumption) | exact Views.of_drop 10 (by assumption) | exact Views.of_drop 11 (by assumption) | exact Views.of_drop 12 (by assumption)) (by first | omega | (simp only [List.length_cons, List.length_nil]; omega) | (simp; done) | (simp; omega))) rfl ?_
       clear hE a; intro a hE
       refine qvG hE (by first | exact .t rfl | exact .f rfl | exact .gt rfl | exact .gf rfl) (fun hg w hw => by (try simp only [↓gval_on hg, ↓gval_and hg] at hE); (have hg2 := hg; (try simp only [Bool.and_eq_true, Bool.or_eq_true, Bool.not_eq_true', decide_eq_true_eq, decide_eq_false_iff_not] at hg2)); first | exact r_elMf ⟨hE, hw⟩ rfl K.u_int rfl (by first | exact Views.own 0 rfl | exact Views.own 1 rfl | exact Views.own 2 rfl | exact Views.own 3 rfl | exact Views.own 4 rfl | exact Views.own 5 rfl | assumption | exact Views.of_drop 1 (by assumption) | exact Views.of_drop 2 (by assumption) | exact Views.of_drop 3 (by assumption) | exact Views.of_drop 4 (by assumption) | exact Views.of_drop 5 (by assumption) | exact Views.of_drop 6 (by assumption) | exact Views.of_drop 7 (by assumption) | exact Views.of_drop 8 (by assumption) | exact Views.of_drop 9 (by assumption) | exact Views.of_drop 10 (by assumption) | exact Views.of_drop 11 (by assumption) | exact Views.of_drop 12 (by assumption)) (by assumption) rfl) rfl ?_
       clear hE a; intro a hE
       refine qvG hE (by first | exact .t rfl | exact .f rfl | exact .gt rfl | exact .gf rfl) (fun hg w hw => by (try simp only [↓gval_on hg, ↓gval_and hg] at hE); (have hg2 := hg; (try simp only [Bool.and_eq_true, Bool.or_eq_true, Bool.not_eq_true', decide_eq_true_eq, decide_eq_false_iff_not] at hg2)); first | exact r_fieldAddr0 ⟨hE, hw⟩ rfl K.u_api_Elem rfl K.sz_int rfl rfl | exact op_fieldC ⟨hE, hw⟩ 0 rfl K.u_api_Elem rfl K.sz_int rfl rfl (by assumption) rfl) rfl ?_
       clear hE a; intro a hE
       refine qvG hE (by first | exact .t rfl | exact .f rfl | exact .gt rfl | exact .gf rfl) (fun hg w hw => by (try simp only [↓gval_on hg, ↓gval_and hg] at hE); (have hg2 := hg; (try simp only [Bool.and_eq_true, Bool.or_eq_true, Bool.not_eq_true', decide_eq_true_eq, decide_eq_false_iff_not] at hg2)); first | exact r_ldN ⟨hE, hw⟩ rfl K.u_int rfl 0 rfl rfl | exact r_ldN ⟨hE, hw⟩ rfl K.u_int rfl 1 rfl rfl | exact r_ldN ⟨hE, hw⟩ rfl K.u_int rfl 2 rfl rfl | exact r_ldN ⟨hE, hw⟩ rfl K.u_int rfl 3 rfl rfl | exact r_ldN ⟨hE, hw⟩ rfl K.u_int rfl 4 rfl rfl | exact r_ldN ⟨hE, hw⟩ rfl K.u_int rfl 5 rfl rfl | exact r_ldN ⟨hE, hw⟩ rfl K.u_int rfl 6 rfl rfl | exact r_ldC (o := 0) ⟨hE, hw⟩ rfl K.u_int rfl 0 rfl | exact r_ldC (o := 0) ⟨hE, hw⟩ rfl K.u_int rfl 1 rfl | exact r_ldC (o := 0) ⟨hE, hw⟩ rfl K.u_int rfl 2 rfl | exact r_ldC (o := 0) ⟨hE, hw⟩ rfl K.u_int rfl 3 rfl | exact r_ldC (o := 0) ⟨hE, hw⟩ rfl K.u_int rfl 4 rfl | exact r_ldC (o := 0) ⟨hE, hw⟩ rfl K.u_int rfl 5 rfl | exact r_ldC (o := 0) ⟨hE, hw⟩ rfl K.u_int rfl 6 rfl | exact r_load ⟨hE, hw⟩ rfl K.u_int rfl 0 rfl rfl | exact r_load ⟨hE, hw⟩ rfl K.u_int rfl 1 rfl rfl | exact r_load ⟨hE, hw⟩ rfl K.u_int rfl 2 rfl rfl | exact r_load ⟨hE, hw⟩ rfl K.u_int rfl 3 rfl rfl | exact r_load ⟨hE, hw⟩ rfl K.u_int rfl 4 rfl rfl | exact r_load ⟨hE, hw⟩ rfl K.u_int rfl 5 rfl rfl | exact r_load1 ⟨hE, hw⟩ rfl K.u_int rfl (by assumption)) rfl ?_
       clear hE a; intro a hE
       refine qvG hE (by first | exact .t rfl | exact .f rfl | exact .gt rfl | exact .gf rfl) (fun hg w hw => by (try simp only [↓gval_on hg, ↓gval_and hg] at hE); (have hg2 := hg; (try simp only [Bool.and_eq_true, Bool.or_eq_true, Bool.not_eq_true', decide_eq_true_eq, decide_eq_false_iff_not] at hg2)); first | exact r_bin ⟨hE, hw⟩ rfl rfl (B.neq_int)) rfl ?_
       clear hE a; intro a hE
       first
              | (refine qv hE (fun w hw => r_pickA ⟨hE, hw⟩ rfl rfl rfl) rfl ?_)
              | (refine qv hE (fun w hw => r_pickO ⟨hE, hw⟩ rfl rfl rfl) rfl ?_)
              | (refine qv hE (fun w hw => r_pick_true ⟨hE, hw⟩ rfl rfl) rfl ?_)
              | (refine qv hE (fun w hw => r_pick_false ⟨hE, hw⟩ rfl rfl) rfl ?_)
              | (refine qv hE (fun w hw => r_pick ⟨hE, hw⟩ rfl rfl rfl) rfl ?_)
       clear hE a; intro a hE
       refine qv hE (fun w hw => r_move ⟨hE, hw⟩ rfl) rfl ?_
       clear hE a; intro a hE
       refine qvG hE (by first | exact .t rfl | exact .f rfl | exact .gt rfl | exact .gf rfl) (fun hg w hw => by (try simp only [↓gval_on hg, ↓gval_and hg] at hE); (have hg2 := hg; (try simp only [Bool.and_eq_true, Bool.or_eq_true, Bool.not_eq_true', decide_eq_true_eq, decide_eq_false_iff_not] at hg2)); first | exact r_move ⟨hE, hw⟩ rfl) rfl ?_
       clear hE a; intro a hE
       refine qvG hE (by first | exact .t rfl | exact .f rfl | exact .gt rfl | exact .gf rfl) (fun hg w hw => by (try simp only [↓gval_on hg, ↓gval_and hg] at hE); (have hg2 := hg; (try simp only [Bool.and_eq_true, Bool.or_eq_true, Bool.not_eq_true', decide_eq_true_eq, decide_eq_false_iff_not] at hg2)); first | exact r_move ⟨hE, hw⟩ rfl) rfl ?_
       clear hE a; intro a hE
       refine qvG hE (by first | exact .t rfl | exact .f rfl | exact .gt rfl | exact .gf rfl) (fun hg w hw => by (try simp only [↓gval_on hg, ↓gval_and hg] at hE); (have hg2 := hg; (try simp only [Bool.and_eq_true, Bool.or_eq_true, Bool.not_eq_true', decide_eq_true_eq, decide_eq_false_iff_not] at hg2)); first | exact r_elP ⟨hE, hw⟩ rfl rfl K.u_api_Chart K.sz_api_Elem (by first | exact Views.own 0 rfl | exact Views.own 1 rfl | exact Views.own 2 rfl | exact Views.own 3 rfl | exact Views.own 4 rfl | exact Views.own 5 rfl | assumption | exact Views.of_drop 1 (by assumption) | exact Views.of_drop 2 (by assumption) | exact Views.of_drop 3 (by assumption) | exact Views.of_drop 4 (by assumption) | exact Views.of_drop 5 (by assumption) | exact Views.of_drop 6 (by assumption) | exact Views.of_drop 7 (by assumption) | exact Views.of_drop 8 (by assumption) | exact Views.of_drop 9 (by assumption) | exact Views.of_drop 10 (by assumption) | exact Views.of_drop 11 (by assumption) | exact Views.of_drop 12 (by assumption)) (by first | omega | (simp; done)) (by first | omega | (simp only [List.length_cons, List.length_nil]; omega) | (simp; done) | (simp; omega))) rfl ?_
       clear hE a; intro a hE
       refine qvG hE (by first | exact .t rfl | exact .f rfl | exact .gt rfl | exact .gf rfl) (fun hg w hw => by (try simp only [↓gval_on hg, ↓gval_and hg] at hE); (have hg2 := hg; (try simp only [Bool.and_eq_true, Bool.or_eq_true, Bool.not_eq_true', decide_eq_true_eq, decide_eq_false_iff_not] at hg2)); first | exact r_elF ⟨hE, hw⟩ 2 rfl K.u_api_Elem rfl K.sz_int rfl rfl (by first | exact Views.own 0 rfl | exact Views.own 1 rfl | exact Views.own 2 rfl | exact Views.own 3 rfl | exact Views.own 4 rfl | exact Views.own 5 rfl | assumption | exact Views.of_drop 1 (by assumption) | exact Views.of_drop 2 (by assumption) | exact Views.of_drop 3 (by assumption) | exact Views.of_drop 4 (by assumption) | exact Views.of_drop 5 (by assumption) | exact Views.of_drop 6 (by assumption) | exact Views.of_drop 7 (by assumption) | exact Views.of_drop 8 (by assumption) | exact Views.of_drop 9 (by assumption) | exact Views.of_drop 10 (by assumption) | exact Views.of_drop 11 (by assumption) | exact Views.of_drop 12 (by assumption)) (by first | omega | (simp only [List.length_cons, List.length_nil]; omega) | (simp; done) | (simp; omega))) rfl ?_
       clear hE a; intro a hE
       refine qvG hE (by first | exact .t rfl | exact .f rfl | exact .gt rfl | exact .gf rfl) (fun hg w hw => by (try simp only [↓gval_on hg, ↓gval_and hg] at hE); (have hg2 := hg; (try simp only [Bool.and_eq_true, Bool.or_eq_true, Bool.not_eq_true', decide_eq_true_eq, decide_eq_false_iff_not] at hg2)); first | exact r_elMf ⟨hE, hw⟩ rfl K.u_int rfl (by first | exact Views.own 0 rfl | exact Views.own 1 rfl | exact Views.own 2 rfl | exact Views.own 3 rfl | exact Views.own 4 rfl | exact Views.own 5 rfl | assumption | exact Views.of_drop 1 (by assumption) | exact Views.of_drop 2 (by assumption) | exact Views.of_drop 3 (by assumption) | exact Views.of_drop 4 (by assumption) | exact Views.of_drop 5 (by assumption) | exact Views.of_drop 6 (by assumption) | exact Views.of_drop 7 (by assumption) | exact Views.of_drop 8 (by assumption) | exact Views.of_drop 9 (by assumption) | exact Views.of_drop 10 (by assumption) | exact Views.of_drop 11 (by assumption) | exact Views.of_drop 12 (by assumption)) (by assumption) rfl) rfl ?_
       clear hE a; intro a hE
       refine qvG hE (by first | exact .t rfl | exact .f rfl | exact .gt rfl | exact .gf rfl) (fun hg w hw => by (try simp only [↓gval_on hg, ↓gval_and hg] at hE); (have hg2 := hg; (try simp only [Bool.and_eq_true, Bool.or_eq_true, Bool.not_eq_true', decide_eq_true_eq, decide_eq_false_iff_not] at hg2)); first | exact r_fieldAddr ⟨hE, hw⟩ 2 rfl K.u_api_Elem rfl K.sz_int rfl rfl | exact op_fieldC ⟨hE, hw⟩ 2 rfl K.u_api_Elem rfl K.sz_int rfl rfl (by assumption) rfl) rfl ?_
       clear hE a; intro a hE
       refine qvG hE (by first | exact .t rfl | exact .f rfl | exact .gt rfl | exact .gf rfl) (fun hg w hw => by (try simp only [↓gval_on hg, ↓gval_and hg] at hE); (have hg2 := hg; (try simp only [Bool.and_eq_true, Bool.or_eq_true, Bool.not_eq_true', decide_eq_true_eq, decide_eq_false_iff_not] at hg2)); first | exact r_ldN ⟨hE, hw⟩ rfl K.u_int rfl 0 rfl rfl | exact r_ldN ⟨hE, hw⟩ rfl K.u_int rfl 1 rfl rfl | exact r_ldN ⟨hE, hw⟩ rfl K.u_int rfl 2 rfl rfl | exact r_ldN ⟨hE, hw⟩ rfl K.u_int rfl 3 rfl rfl | exact r_ldN ⟨hE, hw⟩ rfl K.u_int rfl 4 rfl rfl | exact r_ldN ⟨hE, hw⟩ rfl K.u_int rfl 5 rfl rfl | exact r_ldN ⟨hE, hw⟩ rfl K.u_int rfl 6 rfl rfl | exact r_ldC (o := 2) ⟨hE, hw⟩ rfl K.u_int rfl 0 rfl | exact r_ldC (o := 2) ⟨hE, hw⟩ rfl K.u_int rfl 1 rfl | exact r_ldC (o := 2) ⟨hE, hw⟩ rfl K.u_int rfl 2 rfl | exact r_ldC (o := 2) ⟨hE, hw⟩ rfl K.u_int rfl 3 rfl | exact r_ldC (o := 2) ⟨hE, hw⟩ rfl K.u_int rfl 4 rfl | exact r_ldC (o := 2) ⟨hE, hw⟩ rfl K.u_int rfl 5 rfl | exact r_ldC (o := 2) ⟨hE, hw⟩ rfl K.u_int rfl 6 rfl | exact r_load ⟨hE, hw⟩ rfl K.u_int rfl 0 rfl rfl | exact r_load ⟨hE, hw⟩ rfl K.u_int rfl 1 rfl rfl | exact r_load ⟨hE, hw⟩ rfl K.u_int rfl 2 rfl rfl | exact r_load ⟨hE, hw⟩ rfl K.u_int rfl 3 rfl rfl | exact r_load ⟨hE, hw⟩ rfl K.u_int rfl 4 rfl rfl | exact r_load ⟨hE, hw⟩ rfl K.u_int rfl 5 rfl rfl | exact r_load1 ⟨hE, hw⟩ rfl K.u_int rfl (by assumption)) rfl ?_
       clear hE a; intro a hE
       refine qvG hE (by first | exact .t rfl | exact .f rfl | exact .gt rfl | exact .gf rfl) (fun hg w hw => by (try simp only [↓gval_on hg, ↓gval_and hg] at hE); (have hg2 := hg; (try simp only [Bool.and_eq_true, Bool.or_eq_true, Bool.not_eq_true', decide_eq_true_eq, decide_eq_false_iff_not] at hg2)); first | exact r_bin ⟨hE, hw⟩ rfl rfl (B.eql_int)) rfl ?_
       clear hE a; intro a hE
       first
              | (refine qv hE (fun w hw => r_pickA ⟨hE, hw⟩ rfl rfl rfl) rfl ?_)
              | (refine qv hE (fun w hw => r_pickO ⟨hE, hw⟩ rfl rfl rfl) rfl ?_)
              | (refine qv hE (fun w hw => r_pick_true ⟨hE, hw⟩ rfl rfl) rfl ?_)
              | (refine qv hE (fun w hw => r_pick_false ⟨hE, hw⟩ rfl rfl) rfl ?_)
              | (refine qv hE (fun w hw => r_pick ⟨hE, hw⟩ rfl rfl rfl) rfl ?_)
       clear hE a; intro a hE
       refine qv hE (fun w hw => r_move ⟨hE, hw⟩ rfl) rfl ?_
       clear hE a; intro a hE
       refine qvG hE (by first | exact .t rfl | exact .f rfl | exact .gt rfl | exact .gf rfl) (fun hg w hw => by (try simp only [↓gval_on hg, ↓gval_and hg] at hE); (have hg2 := hg; (try simp only [Bool.and_eq_true, Bool.or_eq_true, Bool.not_eq_true', decide_eq_true_eq, decide_eq_false_iff_not] at hg2)); first | exact r_move ⟨hE, hw⟩ rfl) rfl ?_
       clear hE a; intro a hE
       refine qvG hE (by first | exact .t rfl | exact .f rfl | exact .gt rfl | exact .gf rfl) (fun hg w hw => by (try simp only [↓gval_on hg, ↓gval_and hg] at hE); (have hg2 := hg; (try simp only [Bool.and_eq_true, Bool.or_eq_true, Bool.not_eq_true', decide_eq_true_eq, decide_eq_false_iff_not] at hg2)); first | exact r_move ⟨hE, hw⟩ rfl) rfl ?_
       clear hE a; intro a hE
       refine qvG hE (by first | exact .t rfl | exact .f rfl | exact .gt rfl | exact .gf rfl) (fun hg w hw => by (try simp only [↓gval_on hg, ↓gval_and hg] at hE); (have hg2 := hg; (try simp only [Bool.and_eq_true, Bool.or_eq_true, Bool.not_eq_true', decide_eq_true_eq, decide_eq_false_iff_not] at hg2)); first | exact r_elP ⟨hE, hw⟩ rfl rfl K.u_api_Chart K.sz_api_Elem (by first | exact Views.own 0 rfl | exact Views.own 1 rfl | exact Views.own 2 rfl | exact Views.own 3 rfl | exact Views.own 4 rfl | exact Views.own 5 rfl | assumption | exact Views.of_drop 1 (by assumption) | exact Views.of_drop 2 (by assumption) | exact Views.of_drop 3 (by assumption) | exact Views.of_drop 4 (by assumption) | exact Views.of_drop 5 (by assumption) | exact Views.of_drop 6 (by assumption) | exact Views.of_drop 7 (by assumption) | exact Views.of_drop 8 (by assumption) | exact Views.of_drop 9 (by assumption) | exact Views.of_drop 10 (by assumption) | exact Views.of_drop 11 (by assumption) | exact Views.of_drop 12 (by assumption)) (by first | omega | (simp; done)) (by first | omega | (simp only [List.length_cons, List.length_nil]; omega) | (simp; done) | (simp; omega))) rfl ?_
       clear hE a; intro a hE
       refine qvG hE (by first | exact .t rfl | exact .f rfl | exact .gt rfl | exact .gf rfl) (fun hg w hw => by (try simp only [↓gval_on hg, ↓gval_and hg] at hE); (have hg2 := hg; (try simp only [Bool.and_eq_true, Bool.or_eq_true, Bool.not_eq_true', decide_eq_true_eq, decide_eq_false_iff_not] at hg2)); first | exact r_elF ⟨hE, hw⟩ 4 rfl K.u_api_Elem rfl K.sz_string rfl rfl (by first | exact Views.own 0 rfl | exact Views.own 1 rfl | exact Views.own 2 rfl | exact Views.own 3 rfl | exact Views.own 4 rfl | exact Views.own 5 rfl | assumption | exact Views.of_drop 1 (by assumption) | exact Views.of_drop 2 (by assumption) | exact Views.of_drop 3 (by assumption) | exact Views.of_drop 4 (by assumption) | exact Views.of_drop 5 (by assumption) | exact Views.of_drop 6 (by assumption) | exact Views.of_drop 7 (by assumption) | exact Views.of_drop 8 (by assumption) | exact Views.of_drop 9 (by assumption) | exact Views.of_drop 10 (by assumption) | exact Views.of_drop 11 (by assumption) | exact Views.of_drop 12 (by assumption)) (by first | omega | (simp only [List.length_cons, List.length_nil]; omega) | (simp; done) | (simp; omega))) rfl ?_
       clear hE a; intro a hE
       refine qvG hE (by first | exact .t rfl | exact .f rfl | exact .gt rfl | exact .gf rfl) (fun hg w hw => by (try simp only [↓gval_on hg, ↓gval_and hg] at hE); (have hg2 := hg; (try simp only [Bool.and_eq_true, Bool.or_eq_true, Bool.not_eq_true', decide_eq_true_eq, decide_eq_false_iff_not] at hg2)); first | exact r_elMf ⟨hE, hw⟩ rfl K.u_string rfl (by first | exact Views.own 0 rfl | exact Views.own 1 rfl | exact Views.own 2 rfl | exact Views.own 3 rfl | exact Views.own 4 rfl | exact Views.own 5 rfl | assumption | exact Views.of_drop 1 (by assumption) | exact Views.of_drop 2 (by assumption) | exact Views.of_drop 3 (by assumption) | exact Views.of_drop 4 (by assumption) | exact Views.of_drop 5 (by assumption) | exact Views.of_drop 6 (by assumption) | exact Views.of_drop 7 (by assumption) | exact Views.of_drop 8 (by assumption) | exact Views.of_drop 9 (by assumption) | exact Views.of_drop 10 (by assumption) | exact Views.of_drop 11 (by assumption) | exact Views.of_drop 12 (by assumption)) (by assumption) rfl) rfl ?_
       clear hE a; intro a hE
       refine qvG hE (by first | exact .t rfl | exact .f rfl | exact .gt rfl | exact .gf rfl) (fun hg w hw => by (try simp only [↓gval_on hg, ↓gval_and hg] at hE); (have hg2 := hg; (try simp only [Bool.and_eq_true, Bool.or_eq_true, Bool.not_eq_true', decide_eq_true_eq, decide_eq_false_iff_not] at hg2)); first | exact r_fieldAddr ⟨hE, hw⟩ 4 rfl K.u_api_Elem rfl K.sz_string rfl rfl | exact op_fieldC ⟨hE, hw⟩ 4 rfl K.u_api_Elem rfl K.sz_string rfl rfl (by assumption) rfl) rfl ?_
       clear hE a; intro a hE
       refine qvG hE (by first | exact .t rfl | exact .f rfl | exact .gt rfl | exact .gf rfl) (fun hg w hw => by (try simp only [↓gval_on hg, ↓gval_and hg] at hE); (have hg2 := hg; (try simp only [Bool.and_eq_true, Bool.or_eq_true, Bool.not_eq_true', decide_eq_true_eq, decide_eq_false_iff_not] at hg2)); first | exact r_ldN ⟨hE, hw⟩ rfl K.u_string rfl 0 rfl rfl | exact r_ldN ⟨hE, hw⟩ rfl K.u_string rfl 1 rfl rfl | exact r_ldN ⟨hE, hw⟩ rfl K.u_string rfl 2 rfl rfl | exact r_ldN ⟨hE, hw⟩ rfl K.u_string rfl 3 rfl rfl | exact r_ldN ⟨hE, hw⟩ rfl K.u_string rfl 4 rfl rfl | exact r_ldN ⟨hE, hw⟩ rfl K.u_string rfl 5 rfl rfl | exact r_ldN ⟨hE, hw⟩ rfl K.u_string rfl 6 rfl rfl | exact r_ldC (o := 4) ⟨hE, hw⟩ rfl K.u_string rfl 0 rfl | exact r_ldC (o := 4) ⟨hE, hw⟩ rfl K.u_string rfl 1 rfl | exact r_ldC (o := 4) ⟨hE, hw⟩ rfl K.u_string rfl 2 rfl | exact r_ldC (o := 4) ⟨hE, hw⟩ rfl K.u_string rfl 3 rfl | exact r_ldC (o := 4) ⟨hE, hw⟩ rfl K.u_string rfl 4 rfl | exact r_ldC (o := 4) ⟨hE, hw⟩ rfl K.u_string rfl 5 rfl | exact r_ldC (o := 4) ⟨hE, hw⟩ rfl K.u_string rfl 6 rfl | exact r_load ⟨hE, hw⟩ rfl K.u_string rfl 0 rfl rfl | exact r_load ⟨hE, hw⟩ rfl K.u_string rfl 1 rfl rfl | exact r_load ⟨hE, hw⟩ rfl K.u_string rfl 2 rfl rfl | exact r_load ⟨hE, hw⟩ rfl K.u_string rfl 3 rfl rfl | exact r_load ⟨hE, hw⟩ rfl K.u_string rfl 4 rfl rfl | exact r_load ⟨hE, hw⟩ rfl K.u_string rfl 5 rfl rfl | exact r_load1 ⟨hE, hw⟩ rfl K.u_string rfl (by assumption)) rfl ?_
       clear hE a; intro a hE
       refine qvG hE (by first | exact .t rfl | exact .f rfl | exact .gt rfl | exact .gf rfl) (fun hg w hw => by (try simp only [↓gval_on hg, ↓gval_and hg] at hE); (have hg2 := hg; (try simp only [Bool.and_eq_true, Bool.or_eq_true, Bool.not_eq_true', decide_eq_true_eq, decide_eq_false_iff_not] at hg2)); first | exact r_streq ⟨hE, hw⟩ rfl rfl) rfl ?_
       clear hE a; intro a hE
       first
              | (refine qv hE (fun w hw => r_pickA ⟨hE, hw⟩ rfl rfl rfl) rfl ?_)
              | (refine qv hE (fun w hw => r_pickO ⟨hE, hw⟩ rfl rfl rfl) rfl ?_)
              | (refine qv hE (fun w hw => r_pick_true ⟨hE, hw⟩ rfl rfl) rfl ?_)
              | (refine qv hE (fun w hw => r_pick_false ⟨hE, hw⟩ rfl rfl) rfl ?_)
              | (refine qv hE (fun w hw => r_pick ⟨hE, hw⟩ rfl rfl rfl) rfl ?_)
       clear hE a; intro a hE
       refine qnil hE ?_
       clear hE a; intro a w h
       refine c_then ?_
       refine c_cond h rfl (fun ht4 => ?_) (fun ht4 => ?_)
       ·
        replace ht4 : hit3 e x = true := ht4
        as_aux_lemma =>
         refine c_seq (c_region ?_)
         refine wv h (r_assign h rfl) rfl ?_
         clear h a w; intro a w h
         refine wnil (c_then ?_)
         refine c_ret ?_
         exact ret1 h rfl rfl ⟨(), by rw [brkE, brk3, ← hx2, ht4]; rfl, h.2.drop 1, trivial⟩
       ·
        replace ht4 : hit3 e x = false := ht4
        refine c_skip ?_
        refine b_normal ?_
        refine c_then ?_
        refine c_region ?_
        refine wv h (r_move h rfl) rfl ?_
        clear h a w; intro a w h
        refine wv h (r_bin h rfl rfl (B.add_i64 (by omega) (by omega))) rfl ?_
        clear h a w; intro a w h
        refine wv h (r_assign h rfl) rfl ?_
        clear h a w; intro a w h
        refine wnil ?_
        rw [ht4, Bool.false_or] at hx2
        exact ⟨i + 1, h.keep [0, 4, 8], ⟨by omega, hx2⟩, by show l.length - (i + 1) < l.length - i; omega⟩
      ·
       obtain rfl : i = l.length := by omega
       rw [List.drop_length, List.any_nil] at hx2
       refine c_exit ?_
       refine e_then ?_
       refine e_then ?_
       refine e_here ?_
       refine c_then ?_
       refine c_seq (c_region ?_)
       first
              | (refine wv h (r_ldA h rfl K.u_api_Elem rfl K.sz_api_Elem 0 rfl (by first | exact Row.len _ | rfl | assumption | (simp; done) | (simp; omega) | omega)) rfl ?_)
              | (refine wv h (r_ldA h rfl K.u_api_Elem rfl K.sz_api_Elem 1 rfl (by first | exact Row.len _ | rfl | assumption | (simp; done) | (simp; omega) | omega)) rfl ?_)
              | (refine wv h (r_ldA h rfl K.u_api_Elem rfl K.sz_api_Elem 2 rfl (by first | exact Row.len _ | rfl | assumption | (simp; done) | (simp; omega) | omega)) rfl ?_)
              | (refine wv h (r_ldA h rfl K.u_api_Elem rfl K.sz_api_Elem 3 rfl (by first | exact Row.len _ | rfl | assumption | (simp; done) | (simp; omega) | omega)) rfl ?_)
              | (refine wv h (r_ldA h rfl K.u_api_Elem rfl K.sz_api_Elem 4 rfl (by first | exact Row.len _ | rfl | assumption | (simp; done) | (simp; omega) | omega)) rfl ?_)
              | (refine wv h (r_ldA h rfl K.u_api_Elem rfl K.sz_api_Elem 5 rfl (by first | exact Row.len _ | rfl | assumption | (simp; done) | (simp; omega) | omega)) rfl ?_)
              | (refine wv h (r_loadCA h rfl K.u_api_Elem rfl K.sz_api_Elem (by assumption) (by first | rfl | assumption | (simp; done) | (simp; omega) | omega)) rfl ?_)
       clear h a w; intro a w h
       refine wl rfl (op_call h rfl K.go_ref09_named (ref09_named s _ _ _ h.2) rfl ?_)
       clear h a w; intro x a w hx h
       (try simp only [List.set_cons_zero, List.set_cons_succ] at h)
       refine wv h (r_move h rfl) rfl ?_
       clear h a w; intro a w h
       refine wvG h (by first | exact .t rfl | exact .f rfl | exact .gt rfl | exact .gf rfl) (fun hg => by (try simp only [↓gval_on hg, ↓gval_and hg] at h); (have hg2 := hg; (try simp only [Bool.and_eq_true, Bool.or_eq_true, Bool.not_eq_true', decide_eq_true_eq, decide_eq_false_iff_not] at hg2)); first | exact r_fieldAddr h 4 rfl K.u_api_Elem rfl K.sz_string rfl rfl) rfl ?_
       clear h a w; intro a w h
       refine wvG h (by first | exact .t rfl | exact .f rfl | exact .gt rfl | exact .gf rfl) (fun hg => by (try simp only [↓gval_on hg, ↓gval_and hg] at h); (have hg2 := hg; (try simp only [Bool.and_eq_true, Bool.or_eq_true, Bool.not_eq_true', decide_eq_true_eq, decide_eq_false_iff_not] at hg2)); first | exact r_ldN h rfl K.u_string rfl 0 rfl rfl | exact r_ldN h rfl K.u_string rfl 1 rfl rfl | exact r_ldN h rfl K.u_string rfl 2 rfl rfl | exact r_ldN h rfl K.u_string rfl 3 rfl rfl | exact r_ldN h rfl K.u_string rfl 4 rfl rfl | exact r_ldN h rfl K.u_string rfl 5 rfl rfl | exact r_ldN h rfl K.u_string rfl 6 rfl rfl | exact r_ldC (o := 4) h rfl K.u_string rfl 0 rfl | exact r_ldC (o := 4) h rfl K.u_string rfl 1 rfl | exact r_ldC (o := 4) h rfl K.u_string rfl 2 rfl | exact r_ldC (o := 4) h rfl K.u_string rfl 3 rfl | exact r_ldC (o := 4) h rfl K.u_string rfl 4 rfl | exact r_ldC (o := 4) h rfl K.u_string rfl 5 rfl | exact r_ldC (o := 4) h rfl K.u_string rfl 6 rfl | exact r_load h rfl K.u_string rfl 0 rfl rfl | exact r_load h rfl K.u_string rfl 1 rfl rfl | exact r_load h rfl K.u_string rfl 2 rfl rfl | exact r_load h rfl K.u_string rfl 3 rfl rfl | exact r_load h rfl K.u_string rfl 4 rfl rfl | exact r_load h rfl K.u_string rfl 5 rfl rfl | exact r_load1 h rfl K.u_string rfl (by assumption)) rfl ?_
       clear h a w; intro a w h
       refine wvG h (by first | exact .t rfl | exact .f rfl | exact .gt rfl | exact .gf rfl) (fun hg => by (try simp only [↓gval_on hg, ↓gval_and hg] at h); (have hg2 := hg; (try simp only [Bool.and_eq_true, Bool.or_eq_true, Bool.not_eq_true', decide_eq_true_eq, decide_eq_false_iff_not] at hg2)); first | exact r_streq h rfl rfl) rfl ?_
       clear h a w; intro a w h
       first
              | (refine wv h (r_pickA h rfl rfl rfl) rfl ?_)
              | (refine wv h (r_pickO h rfl rfl rfl) rfl ?_)
              | (refine wv h (r_pick_true h rfl rfl) rfl ?_)
              | (refine wv h (r_pick_false h rfl rfl) rfl ?_)
              | (refine wv h (r_pick h rfl rfl rfl) rfl ?_)
       clear h a w; intro a w h
       refine wv h (r_assign h rfl) rfl ?_
       clear h a w; intro a w h
       refine wnil (c_then ?_)
       refine c_ret ?_
       exact ret1 h rfl rfl ⟨(), by rw [brkE, brk3, ← hx2]; rfl, h.2.drop 1, trivial⟩
   ·
    refine c_seq (c_region ?_)
    refine wv h (r_bin h rfl rfl (B.eql_int)) rfl ?_
    clear h a w; intro a w h
    refine wv h (r_assign h rfl) rfl ?_
    clear h a w; intro a w h
    refine wnil (c_then ?_)
    first
     | refine c_condD h rfl (fun ht5 => ?_) (fun ht5 => ?_)
     | refine c_condP h rfl (by first | (simp only [Bool.and_eq_true, Bool.or_eq_true, Bool.not_eq_true', decide_eq_true_eq, decide_eq_false_iff_not, ne_eq, Bool.not_eq_eq_eq_not, Bool.not_true, beq_iff_eq, bne_iff_ne]; exact Iff.rfl) | exact Iff.rfl) (fun ht5 => ?_) (fun ht5 => ?_)
    ·
     obtain rfl : r = 4 := by omega
     as_aux_lemma =>
      refine c_seq (c_region ?_)
      refine wv h (r_move h rfl) rfl ?_
      clear h a w; intro a w h
      refine wv h (r_fieldAddr h 2 rfl K.u_api_Elem rfl K.sz_int rfl rfl) rfl ?_
      clear h a w; intro a w h
      first
            | (refine wv h (r_ldN h rfl K.u_int rfl 0 rfl rfl) rfl ?_)
            | (refine wv h (r_ldN h rfl K.u_int rfl 1 rfl rfl) rfl ?_)
            | (refine wv h (r_ldN h rfl K.u_int rfl 2 rfl rfl) rfl ?_)
            | (refine wv h (r_ldN h rfl K.u_int rfl 3 rfl rfl) rfl ?_)
            | (refine wv h (r_ldN h rfl K.u_int rfl 4 rfl rfl) rfl ?_)
            | (refine wv h (r_ldN h rfl K.u_int rfl 5 rfl rfl) rfl ?_)
            | (refine wv h (r_ldN h rfl K.u_int rfl 6 rfl rfl) rfl ?_)
            | (refine wv h (r_ldC (o := 2) h rfl K.u_int rfl 0 rfl) rfl ?_)
            | (refine wv h (r_ldC (o := 2) h rfl K.u_int rfl 1 rfl) rfl ?_)
            | (refine wv h (r_ldC (o := 2) h rfl K.u_int rfl 2 rfl) rfl ?_)
            | (refine wv h (r_ldC (o := 2) h rfl K.u_int rfl 3 rfl) rfl ?_)
            | (refine wv h (r_ldC (o := 2) h rfl K.u_int rfl 4 rfl) rfl ?_)
            | (refine wv h (r_ldC (o := 2) h rfl K.u_int rfl 5 rfl) rfl ?_)
            | (refine wv h (r_ldC (o := 2) h rfl K.u_int rfl 6 rfl) rfl ?_)
            | (refine wv h (r_load h rfl K.u_int rfl 0 rfl rfl) rfl ?_)
            | (refine wv h (r_load h rfl K.u_int rfl 1 rfl rfl) rfl ?_)
            | (refine wv h (r_load h rfl K.u_int rfl 2 rfl rfl) rfl ?_)
            | (refine wv h (r_load h rfl K.u_int rfl 3 rfl rfl) rfl ?_)
            | (refine wv h (r_load h rfl K.u_int rfl 4 rfl rfl) rfl ?_)
            | (refine wv h (r_load h rfl K.u_int rfl 5 rfl rfl) rfl ?_)
            | (refine wv h (r_load1 h rfl K.u_int rfl (by assumption)) rfl ?_)
      clear h a w; intro a w h
      refine wl rfl (op_call h rfl K.go_ref09_kind (ref09_kind s _ _ _ _ _ (by first | exact Views.own 0 rfl | exact Views.own 1 rfl | exact Views.own 2 rfl | exact Views.own 3 rfl | exact Views.own 4 rfl | exact Views.own 5 rfl | assumption | exact Views.of_drop 1 (by assumption) | exact Views.of_drop 2 (by assumption) | exact Views.of_drop 3 (by assumption) | exact Views.of_drop 4 (by assumption) | exact Views.of_drop 5 (by assumption) | exact Views.of_drop 6 (by assumption) | exact Views.of_drop 7 (by assumption) | exact Views.of_drop 8 (by assumption) | exact Views.of_drop 9 (by assumption) | exact Views.of_drop 10 (by assumption) | exact Views.of_drop 11 (by assumption) | exact Views.of_drop 12 (by assumption)) h.2) rfl ?_)
      clear h a w; intro x a w hx h
      (try simp only [List.set_cons_zero, List.set_cons_succ] at h)
      refine wv h (r_assign h rfl) rfl ?_
      clear h a w; intro a w h
      refine wnil (c_then ?_)
      refine c_seq ?_
      refine c_seq (c_region ?_)
      refine wv h (r_fieldAddr h 1 rfl K.u_api_Elem rfl K.sz_uint8 rfl rfl) rfl ?_
      clear h a w; intro a w h
      first
            | (refine wv h (r_ldN h rfl K.u_uint8 rfl 0 rfl rfl) rfl ?_)
            | (refine wv h (r_ldN h rfl K.u_uint8 rfl 1 rfl rfl) rfl ?_)
            | (refine wv h (r_ldN h rfl K.u_uint8 rfl 2 rfl rfl) rfl ?_)
            | (refine wv h (r_ldN h rfl K.u_uint8 rfl 3 rfl rfl) rfl ?_)
            | (refine wv h (r_ldN h rfl K.u_uint8 rfl 4 rfl rfl) rfl ?_)
            | (refine wv h (r_ldN h rfl K.u_uint8 rfl 5 rfl rfl) rfl ?_)
            | (refine wv h (r_ldN h rfl K.u_uint8 rfl 6 rfl rfl) rfl ?_)
            | (refine wv h (r_ldC (o := 1) h rfl K.u_uint8 rfl 0 rfl) rfl ?_)
            | (refine wv h (r_ldC (o := 1) h rfl K.u_uint8 rfl 1 rfl) rfl ?_)
            | (refine wv h (r_ldC (o := 1) h rfl K.u_uint8 rfl 2 rfl) rfl ?_)
            | (refine wv h (r_ldC (o := 1) h rfl K.u_uint8 rfl 3 rfl) rfl ?_)
            | (refine wv h (r_ldC (o := 1) h rfl K.u_uint8 rfl 4 rfl) rfl ?_)
            | (refine wv h (r_ldC (o := 1) h rfl K.u_uint8 rfl 5 rfl) rfl ?_)
            | (refine wv h (r_ldC (o := 1) h rfl K.u_uint8 rfl 6 rfl) rfl ?_)
            | (refine wv h (r_load h rfl K.u_uint8 rfl 0 rfl rfl) rfl ?_)
            | (refine wv h (r_load h rfl K.u_uint8 rfl 1 rfl rfl) rfl ?_)
            | (refine wv h (r_load h rfl K.u_uint8 rfl 2 rfl rfl) rfl ?_)
            | (refine wv h (r_load h rfl K.u_uint8 rfl 3 rfl rfl) rfl ?_)
            | (refine wv h (r_load h rfl K.u_uint8 rfl 4 rfl rfl) rfl ?_)
            | (refine wv h (r_load h rfl K.u_uint8 rfl 5 rfl rfl) rfl ?_)
            | (refine wv h (r_load1 h rfl K.u_uint8 rfl (by assumption)) rfl ?_)
      clear h a w; intro a w h
      refine wv h (r_bin h rfl rfl (B.eql_u8 (y := 2))) rfl ?_
      clear h a w; intro a w h
      refine wnil (c_then ?_)
      first
       | refine c_condD h rfl (fun ht6 => ?_) (fun ht6 => ?_)
       | refine c_condP h rfl (by first | (simp only [Bool.and_eq_true, Bool.or_eq_true, Bool.not_eq_true', decide_eq_true_eq, decide_eq_false_iff_not, ne_eq, Bool.not_eq_eq_eq_not, Bool.not_true, beq_iff_eq, bne_iff_ne]; exact Iff.rfl) | exact Iff.rfl) (fun ht6 => ?_) (fun ht6 => ?_)
      ·
       as_aux_lemma =>
        refine c_seq (c_region ?_)
        refine wv h (r_fieldAddr h 2 rfl K.u_api_Elem rfl K.sz_int rfl rfl) rfl ?_
        clear h a w; intro a w h
        first
                | (refine wv h (r_ldN h rfl K.u_int rfl 0 rfl rfl) rfl ?_)
                | (refine wv h (r_ldN h rfl K.u_int rfl 1 rfl rfl) rfl ?_)
                | (refine wv h (r_ldN h rfl K.u_int rfl 2 rfl rfl) rfl ?_)
                | (refine wv h (r_ldN h rfl K.u_int rfl 3 rfl rfl) rfl ?_)
                | (refine wv h (r_ldN h rfl K.u_int rfl 4 rfl rfl) rfl ?_)
                | (refine wv h (r_ldN h rfl K.u_int rfl 5 rfl rfl) rfl ?_)
                | (refine wv h (r_ldN h rfl K.u_int rfl 6 rfl rfl) rfl ?_)
                | (refine wv h (r_ldC (o := 2) h rfl K.u_int rfl 0 rfl) rfl ?_)
                | (refine wv h (r_ldC (o := 2) h rfl K.u_int rfl 1 rfl) rfl ?_)
                | (refine wv h (r_ldC (o := 2) h rfl K.u_int rfl 2 rfl) rfl ?_)
                | (refine wv h (r_ldC (o := 2) h rfl K.u_int rfl 3 rfl) rfl ?_)
                | (refine wv h (r_ldC (o := 2) h rfl K.u_int rfl 4 rfl) rfl ?_)
                | (refine wv h (r_ldC (o := 2) h rfl K.u_int rfl 5 rfl) rfl ?_)
                | (refine wv h (r_ldC (o := 2) h rfl K.u_int rfl 6 rfl) rfl ?_)
                | (refine wv h (r_load h rfl K.u_int rfl 0 rfl rfl) rfl ?_)
                | (refine wv h (r_load h rfl K.u_int rfl 1 rfl rfl) rfl ?_)
                | (refine wv h (r_load h rfl K.u_int rfl 2 rfl rfl) rfl ?_)
                | (refine wv h (r_load h rfl K.u_int rfl 3 rfl rfl) rfl ?_)
                | (refine wv h (r_load h rfl K.u_int rfl 4 rfl rfl) rfl ?_)
                | (refine wv h (r_load h rfl K.u_int rfl 5 rfl rfl) rfl ?_)
                | (refine wv h (r_load1 h rfl K.u_int rfl (by assumption)) rfl ?_)
        clear h a w; intro a w h
        refine wv h (r_bin h rfl rfl (B.eql_int)) rfl ?_
        clear h a w; intro a w h
        refine wv h (r_move h rfl) rfl ?_
        clear h a w; intro a w h
        refine wvG h (by first | exact .t rfl | exact .f rfl | exact .gt rfl | exact .gf rfl) (fun hg => by (try simp only [↓gval_on hg, ↓gval_and hg] at h); (have hg2 := hg; (try simp only [Bool.and_eq_true, Bool.or_eq_true, Bool.not_eq_true', decide_eq_true_eq, decide_eq_false_iff_not] at hg2)); first | exact r_move h rfl) rfl ?_
        clear h a w; intro a w h
        refine wvG h (by first | exact .t rfl | exact .f rfl | exact .gt rfl | exact .gf rfl) (fun hg => by (try simp only [↓gval_on hg, ↓gval_and hg] at h); (have hg2 := hg; (try simp only [Bool.and_eq_true, Bool.or_eq_true, Bool.not_eq_true', decide_eq_true_eq, decide_eq_false_iff_not] at hg2)); first | exact r_bin h rfl rfl (B.neq_u8 (y := 1))) rfl ?_
        clear h a w; intro a w h
        first
                | (refine wv h (r_pickA h rfl rfl rfl) rfl ?_)
                | (refine wv h (r_pickO h rfl rfl rfl) rfl ?_)
                | (refine wv h (r_pick_true h rfl rfl) rfl ?_)
                | (refine wv h (r_pick_false h rfl rfl) rfl ?_)
                | (refine wv h (r_pick h rfl rfl rfl) rfl ?_)
        clear h a w; intro a w h
        refine wv h (r_assign h rfl) rfl ?_
        clear h a w; intro a w h
        refine wnil (c_then ?_)
        refine c_ret ?_
        exact ret1 h rfl rfl ⟨(), by rw [brkE, brk4, if_pos ht6], h.2.drop 1, trivial⟩
      ·
       refine c_skip ?_
       refine c_then ?_
       refine c_seq (c_region ?_)
       refine wv h (r_fieldAddr h 2 rfl K.u_api_Elem rfl K.sz_int rfl rfl) rfl ?_
       clear h a w; intro a w h
       first
              | (refine wv h (r_ldN h rfl K.u_int rfl 0 rfl rfl) rfl ?_)
              | (refine wv h (r_ldN h rfl K.u_int rfl 1 rfl rfl) rfl ?_)
              | (refine wv h (r_ldN h rfl K.u_int rfl 2 rfl rfl) rfl ?_)
              | (refine wv h (r_ldN h rfl K.u_int rfl 3 rfl rfl) rfl ?_)
              | (refine wv h (r_ldN h rfl K.u_int rfl 4 rfl rfl) rfl ?_)
              | (refine wv h (r_ldN h rfl K.u_int rfl 5 rfl rfl) rfl ?_)
              | (refine wv h (r_ldN h rfl K.u_int rfl 6 rfl rfl) rfl ?_)
              | (refine wv h (r_ldC (o := 2) h rfl K.u_int rfl 0 rfl) rfl ?_)
              | (refine wv h (r_ldC (o := 2) h rfl K.u_int rfl 1 rfl) rfl ?_)
              | (refine wv h (r_ldC (o := 2) h rfl K.u_int rfl 2 rfl) rfl ?_)
              | (refine wv h (r_ldC (o := 2) h rfl K.u_int rfl 3 rfl) rfl ?_)
              | (refine wv h (r_ldC (o := 2) h rfl K.u_int rfl 4 rfl) rfl ?_)
              | (refine wv h (r_ldC (o := 2) h rfl K.u_int rfl 5 rfl) rfl ?_)
              | (refine wv h (r_ldC (o := 2) h rfl K.u_int rfl 6 rfl) rfl ?_)
              | (refine wv h (r_load h rfl K.u_int rfl 0 rfl rfl) rfl ?_)
              | (refine wv h (r_load h rfl K.u_int rfl 1 rfl rfl) rfl ?_)
              | (refine wv h (r_load h rfl K.u_int rfl 2 rfl rfl) rfl ?_)
              | (refine wv h (r_load h rfl K.u_int rfl 3 rfl rfl) rfl ?_)
              | (refine wv h (r_load h rfl K.u_int rfl 4 rfl rfl) rfl ?_)
              | (refine wv h (r_load h rfl K.u_int rfl 5 rfl rfl) rfl ?_)
              | (refine wv h (r_load1 h rfl K.u_int rfl (by assumption)) rfl ?_)
       clear h a w; intro a w h
       refine wv h (r_bin h rfl rfl (B.neq_int)) rfl ?_
       clear h a w; intro a w h
       refine wv h (r_move h rfl) rfl ?_
       clear h a w; intro a w h
       refine wvG h (by first | exact .t rfl | exact .f rfl | exact .gt rfl | exact .gf rfl) (fun hg => by (try simp only [↓gval_on hg, ↓gval_and hg] at h); (have hg2 := hg; (try simp only [Bool.and_eq_true, Bool.or_eq_true, Bool.not_eq_true', decide_eq_true_eq, decide_eq_false_iff_not] at hg2)); first | exact r_move h rfl) rfl ?_
       clear h a w; intro a w h
       refine wvG h (by first | exact .t rfl | exact .f rfl | exact .gt rfl | exact .gf rfl) (fun hg => by (try simp only [↓gval_on hg, ↓gval_and hg] at h); (have hg2 := hg; (try simp only [Bool.and_eq_true, Bool.or_eq_true, Bool.not_eq_true', decide_eq_true_eq, decide_eq_false_iff_not] at hg2)); first | exact r_bin h rfl rfl (B.neq_u8 (y := 1))) rfl ?_
       clear h a w; intro a w h
       first
              | (refine wv h (r_pickA h rfl rfl rfl) rfl ?_)
              | (refine wv h (r_pickO h rfl rfl rfl) rfl ?_)
              | (refine wv h (r_pick_true h rfl rfl) rfl ?_)
              | (refine wv h (r_pick_false h rfl rfl) rfl ?_)
              | (refine wv h (r_pick h rfl rfl rfl) rfl ?_)
       clear h a w; intro a w h
       refine wv h (r_move h rfl) rfl ?_
       clear h a w; intro a w h
       refine wvG h (by first | exact .t rfl | exact .f rfl | exact .gt rfl | exact .gf rfl) (fun hg => by (try simp only [↓gval_on hg, ↓gval_and hg] at h); (have hg2 := hg; (try simp only [Bool.and_eq_true, Bool.or_eq_true, Bool.not_eq_true', decide_eq_true_eq, decide_eq_false_iff_not] at hg2)); first | exact r_move h rfl) rfl ?_
       clear h a w; intro a w h
       refine wvG h (by first | exact .t rfl | exact .f rfl | exact .gt rfl | exact .gf rfl) (fun hg => by (try simp only [↓gval_on hg, ↓gval_and hg] at h); (have hg2 := hg; (try simp only [Bool.and_eq_true, Bool.or_eq_true, Bool.not_eq_true', decide_eq_true_eq, decide_eq_false_iff_not] at hg2)); first | exact r_bin h rfl rfl (B.neq_u8 (y := 2))) rfl ?_
       clear h a w; intro a w h
       first
              | (refine wv h (r_pickA h rfl rfl rfl) rfl ?_)
              | (refine wv h (r_pickO h rfl rfl rfl) rfl ?_)
              | (refine wv h (r_pick_true h rfl rfl) rfl ?_)
              | (refine wv h (r_pick_false h rfl rfl) rfl ?_)
              | (refine wv h (r_pick h rfl rfl rfl) rfl ?_)
       clear h a w; intro a w h
       refine wv h (r_assign h rfl) rfl ?_
       clear h a w; intro a w h
       refine wnil (c_then ?_)
       refine c_ret ?_
       exact ret1 h rfl rfl ⟨(), by rw [brkE, brk4, if_neg ht6], h.2.drop 1, trivial⟩
    ·
     refine c_seq (c_region ?_)
     refine wv h (r_bin h rfl rfl (B.eql_int)) rfl ?_
     clear h a w; intro a w h
     refine wv h (r_assign h rfl) rfl ?_
     clear h a w; intro a w h
     refine wnil (c_then ?_)
     first
      | refine c_condD h rfl (fun ht7 => ?_) (fun ht7 => ?_)
      | refine c_condP h rfl (by first | (simp only [Bool.and_eq_true, Bool.or_eq_true, Bool.not_eq_true', decide_eq_true_eq, decide_eq_false_iff_not, ne_eq, Bool.not_eq_eq_eq_not, Bool.not_true, beq_iff_eq, bne_iff_ne]; exact Iff.rfl) | exact Iff.rfl) (fun ht7 => ?_) (fun ht7 => ?_)
     ·
      obtain rfl : r = 5 := by omega
      as_aux_lemma =>
       refine c_seq (c_region ?_)
       refine wv h (r_fieldAddr h 2 rfl K.u_api_Elem rfl K.sz_int rfl rfl) rfl ?_
       clear h a w; intro a w h
       first
              | (refine wv h (r_ldN h rfl K.u_int rfl 0 rfl rfl) rfl ?_)
              | (refine wv h (r_ldN h rfl K.u_int rfl 1 rfl rfl) rfl ?_)
              | (refine wv h (r_ldN h rfl K.u_int rfl 2 rfl rfl) rfl ?_)
              | (refine wv h (r_ldN h rfl K.u_int rfl 3 rfl rfl) rfl ?_)
              | (refine wv h (r_ldN h rfl K.u_int rfl 4 rfl rfl) rfl ?_)
              | (refine wv h (r_ldN h rfl K.u_int rfl 5 rfl rfl) rfl ?_)
              | (refine wv h (r_ldN h rfl K.u_int rfl 6 rfl rfl) rfl ?_)
              | (refine wv h (r_ldC (o := 2) h rfl K.u_int rfl 0 rfl) rfl ?_)
              | (refine wv h (r_ldC (o := 2) h rfl K.u_int rfl 1 rfl) rfl ?_)
              | (refine wv h (r_ldC (o := 2) h rfl K.u_int rfl 2 rfl) rfl ?_)
              | (refine wv h (r_ldC (o := 2) h rfl K.u_int rfl 3 rfl) rfl ?_)
              | (refine wv h (r_ldC (o := 2) h rfl K.u_int rfl 4 rfl) rfl ?_)
              | (refine wv h (r_ldC (o := 2) h rfl K.u_int rfl 5 rfl) rfl ?_)
              | (refine wv h (r_ldC (o := 2) h rfl K.u_int rfl 6 rfl) rfl ?_)
              | (refine wv h (r_load h rfl K.u_int rfl 0 rfl rfl) rfl ?_)
              | (refine wv h (r_load h rfl K.u_int rfl 1 rfl rfl) rfl ?_)
              | (refine wv h (r_load h rfl K.u_int rfl 2 rfl rfl) rfl ?_)
              | (refine wv h (r_load h rfl K.u_int rfl 3 rfl rfl) rfl ?_)
              | (refine wv h (r_load h rfl K.u_int rfl 4 rfl rfl) rfl ?_)
              | (refine wv h (r_load h rfl K.u_int rfl 5 rfl rfl) rfl ?_)
              | (refine wv h (r_load1 h rfl K.u_int rfl (by assumption)) rfl ?_)
       clear h a w; intro a w h
       refine wv h (r_assign h rfl) rfl ?_
       clear h a w; intro a w h
       refine wnil (c_then ?_)
       refine c_seq ?_
       refine c_seq (c_region ?_)
       refine wv h (r_assign h rfl) rfl ?_
       clear h a w; intro a w h
       refine wnil (c_then ?_)
       refine c_block ?_
       refine c_loopX h (X := Nat × Int) (fun x => [(0, v), (4, .pointer (some ⟨b4, 0, none⟩)), (10, .int .i64 x.2), (11, .int .i64 (x.1 : Int))]) (fun _ => Blk b4 (.cells ⟨cellsE e⟩ t_api_Elem) :: F) (fun x => x.1 ≤ l.length ∧ ringE l e.id (l.length - x.1) x.2 = ringE l e.id l.length e.parent) (fun x => l.length - x.1) (0, e.parent) (h.keep [0, 4, 10, 11]) ⟨Nat.zero_le _, rfl⟩ ?_
       clear h a w; intro x a w hx h
       obtain ⟨i, at_⟩ := x
       obtain ⟨hx1, hx2⟩ := hx
       dsimp only at hx1 hx2 h
       as_aux_lemma =>
        refine c_seq ?_
        refine c_seq (c_region ?_)
        refine wv h (r_move h rfl) rfl ?_
        clear h a w; intro a w h
        refine wv h (r_move h rfl) rfl ?_
        clear h a w; intro a w h
        refine wv h (r_lenV h rfl K.u_api_Chart (by first | exact Views.own 0 rfl | exact Views.own 1 rfl | exact Views.own 2 rfl | exact Views.own 3 rfl | exact Views.own 4 rfl | exact Views.own 5 rfl | assumption | exact Views.of_drop 1 (by assumption) | exact Views.of_drop 2 (by assumption) | exact Views.of_drop 3 (by assumption) | exact Views.of_drop 4 (by assumption) | exact Views.of_drop 5 (by assumption) | exact Views.of_drop 6 (by assumption) | exact Views.of_drop 7 (by assumption) | exact Views.of_drop 8 (by assumption) | exact Views.of_drop 9 (by assumption) | exact Views.of_drop 10 (by assumption) | exact Views.of_drop 11 (by assumption) | exact Views.of_drop 12 (by assumption))) rfl ?_
        clear h a w; intro a w h
        refine wv h (r_bin h rfl rfl (B.lss_int)) rfl ?_
        clear h a w; intro a w h
        refine wnil (c_then ?_)
        first
         | refine c_condD h rfl (fun ht8 => ?_) (fun ht8 => ?_)
         | refine c_condP h rfl (by first | (simp only [Bool.and_eq_true, Bool.or_eq_true, Bool.not_eq_true', decide_eq_true_eq, decide_eq_false_iff_not, ne_eq, Bool.not_eq_eq_eq_not, Bool.not_true, beq_iff_eq, bne_iff_ne]; exact Iff.rfl) | exact Iff.rfl) (fun ht8 => ?_) (fun ht8 => ?_)
        ·
         rw [show l.length - i = (l.length - (i + 1)) + 1 by omega, ringE] at hx2
         refine c_skip ?_
         refine c_then ?_
         refine c_seq ?_
         refine c_block ?_
         refine c_seq ?_
         refine c_seq (c_region ?_)
         refine wv h (r_move h rfl) rfl ?_
         clear h a w; intro a w h
         refine wv h (r_fieldAddr0 h rfl K.u_api_Elem rfl K.sz_int rfl rfl) rfl ?_
         clear h a w; intro a w h
         first
                  | (refine wv h (r_ldN h rfl K.u_int rfl 0 rfl rfl) rfl ?_)
                  | (refine wv h (r_ldN h rfl K.u_int rfl 1 rfl rfl) rfl ?_)
                  | (refine wv h (r_ldN h rfl K.u_int rfl 2 rfl rfl) rfl ?_)
                  | (refine wv h (r_ldN h rfl K.u_int rfl 3 rfl rfl) rfl ?_)
                  | (refine wv h (r_ldN h rfl K.u_int rfl 4 rfl rfl) rfl ?_)
                  | (refine wv h (r_ldN h rfl K.u_int rfl 5 rfl rfl) rfl ?_)
                  | (refine wv h (r_ldN h rfl K.u_int rfl 6 rfl rfl) rfl ?_)
                  | (refine wv h (r_ldC (o := 0) h rfl K.u_int rfl 0 rfl) rfl ?_)
                  | (refine wv h (r_ldC (o := 0) h rfl K.u_int rfl 1 rfl) rfl ?_)
                  | (refine wv h (r_ldC (o := 0) h rfl K.u_int rfl 2 rfl) rfl ?_)
                  | (refine wv h (r_ldC (o := 0) h rfl K.u_int rfl 3 rfl) rfl ?_)
                  | (refine wv h (r_ldC (o := 0) h rfl K.u_int rfl 4 rfl) rfl ?_)
                  | (refine wv h (r_ldC (o := 0) h rfl K.u_int rfl 5 rfl) rfl ?_)
                  | (refine wv h (r_ldC (o := 0) h rfl K.u_int rfl 6 rfl) rfl ?_)
                  | (refine wv h (r_load h rfl K.u_int rfl 0 rfl rfl) rfl ?_)
                  | (refine wv h (r_load h rfl K.u_int rfl 1 rfl rfl) rfl ?_)
                  | (refine wv h (r_load h rfl K.u_int rfl 2 rfl rfl) rfl ?_)
                  | (refine wv h (r_load h rfl K.u_int rfl 3 rfl rfl) rfl ?_)
                  | (refine wv h (r_load h rfl K.u_int rfl 4 rfl rfl) rfl ?_)
                  | (refine wv h (r_load h rfl K.u_int rfl 5 rfl rfl) rfl ?_)
                  | (refine wv h (r_load1 h rfl K.u_int rfl (by assumption)) rfl ?_)
         clear h a w; intro a w h
         refine wv h (r_bin h rfl rfl (B.eql_int)) rfl ?_
         clear h a w; intro a w h
         refine wnil (c_then ?_)
         first
          | refine c_condD h rfl (fun ht9 => ?_) (fun ht9 => ?_)
          | refine c_condP h rfl (by first | (simp only [Bool.and_eq_true, Bool.or_eq_true, Bool.not_eq_true', decide_eq_true_eq, decide_eq_false_iff_not, ne_eq, Bool.not_eq_eq_eq_not, Bool.not_true, beq_iff_eq, bne_iff_ne]; exact Iff.rfl) | exact Iff.rfl) (fun ht9 => ?_) (fun ht9 => ?_)
         ·
          as_aux_lemma =>
           refine c_seq (c_region ?_)
           refine wv h (r_assign h rfl) rfl ?_
           clear h a w; intro a w h
           refine wnil (c_then ?_)
           refine c_ret ?_
           exact ret1 h rfl rfl ⟨(), by rw [brkE, brk5, ← hx2, decide_eq_true ht9]; rfl, h.2.drop 1, trivial⟩
         ·
          rw [decide_eq_false ht9, Bool.false_or] at hx2
          refine c_skip ?_
          refine c_then ?_
          refine c_seq (c_region ?_)
          refine wv h (r_move h rfl) rfl ?_
          clear h a w; intro a w h
          refine wv h (r_move h rfl) rfl ?_
          clear h a w; intro a w h
          refine wl rfl (op_call h rfl K.go_ref09_Find (ref09_Find s _ _ _ _ _ (by first | exact Views.own 0 rfl | exact Views.own 1 rfl | exact Views.own 2 rfl | exact Views.own 3 rfl | exact Views.own 4 rfl | exact Views.own 5 rfl | assumption | exact Views.of_drop 1 (by assumption) | exact Views.of_drop 2 (by assumption) | exact Views.of_drop 3 (by assumption) | exact Views.of_drop 4 (by assumption) | exact Views.of_drop 5 (by assumption) | exact Views.of_drop 6 (by assumption) | exact Views.of_drop 7 (by assumption) | exact Views.of_drop 8 (by assumption) | exact Views.of_drop 9 (by assumption) | exact Views.of_drop 10 (by assumption) | exact Views.of_drop 11 (by assumption) | exact Views.of_drop 12 (by assumption)) h.2) rfl ?_)
          clear h a w; intro x a w hx h
          (try simp only [List.set_cons_zero, List.set_cons_succ] at h)
          refine wv h (r_assign h rfl) rfl ?_
          clear h a w; intro a w h
          refine wnil (c_then ?_)
          refine c_seq ?_
          refine c_seq (c_region ?_)
          refine wv h (r_move h rfl) rfl ?_
          clear h a w; intro a w h
          refine wv h (r_bin h rfl rfl (B.lss_int)) rfl ?_
          clear h a w; intro a w h
          refine wnil (c_then ?_)
          first
           | refine c_condD h rfl (fun ht10 => ?_) (fun ht10 => ?_)
           | refine c_condP h rfl (by first | (simp only [Bool.and_eq_true, Bool.or_eq_true, Bool.not_eq_true', decide_eq_true_eq, decide_eq_false_iff_not, ne_eq, Bool.not_eq_eq_eq_not, Bool.not_true, beq_iff_eq, bne_iff_ne]; exact Iff.rfl) | exact Iff.rfl) (fun ht10 => ?_) (fun ht10 => ?_)
          ·
           rw [findI_neg ht10] at hx2
           as_aux_lemma =>
            refine c_seq (c_region ?_)
            refine wv h (r_assign h rfl) rfl ?_
            clear h a w; intro a w h
            refine wnil (c_then ?_)
            refine c_ret ?_
            exact ret1 h rfl rfl ⟨(), by rw [brkE, brk5, ← hx2], h.2.drop 1, trivial⟩
          ·
           obtain ⟨k, x, q1, q2, q3⟩ := findI_pos ht10
           rw [q3] at hx2
           rw [q1] at h
           have hkl : k < l.length := (List.getElem?_eq_some_iff.1 q2).1
           refine c_skip ?_
           refine c_then ?_
           refine c_region ?_
           refine wv h (r_move h rfl) rfl ?_
           clear h a w; intro a w h
           refine wv h (r_move h rfl) rfl ?_
           clear h a w; intro a w h
           refine wv h (r_elP h rfl rfl K.u_api_Chart K.sz_api_Elem (by first | exact Views.own 0 rfl | exact Views.own 1 rfl | exact Views.own 2 rfl | exact Views.own 3 rfl | exact Views.own 4 rfl | exact Views.own 5 rfl | assumption | exact Views.of_drop 1 (by assumption) | exact Views.of_drop 2 (by assumption) | exact Views.of_drop 3 (by assumption) | exact Views.of_drop 4 (by assumption) | exact Views.of_drop 5 (by assumption) | exact Views.of_drop 6 (by assumption) | exact Views.of_drop 7 (by assumption) | exact Views.of_drop 8 (by assumption) | exact Views.of_drop 9 (by assumption) | exact Views.of_drop 10 (by assumption) | exact Views.of_drop 11 (by assumption) | exact Views.of_drop 12 (by assumption)) (by first | omega | (simp; done)) (by first | omega | (simp only [List.length_cons, List.length_nil]; omega) | (simp; done) | (simp; omega))) rfl ?_
           clear h a w; intro a w h
           refine wv h (r_elF h 2 rfl K.u_api_Elem rfl K.sz_int rfl rfl (by first | exact Views.own 0 rfl | exact Views.own 1 rfl | exact Views.own 2 rfl | exact Views.own 3 rfl | exact Views.own 4 rfl | exact Views.own 5 rfl | assumption | exact Views.of_drop 1 (by assumption) | exact Views.of_drop 2 (by assumption) | exact Views.of_drop 3 (by assumption) | exact Views.of_drop 4 (by assumption) | exact Views.of_drop 5 (by assumption) | exact Views.of_drop 6 (by assumption) | exact Views.of_drop 7 (by assumption) | exact Views.of_drop 8 (by assumption) | exact Views.of_drop 9 (by assumption) | exact Views.of_drop 10 (by assumption) | exact Views.of_drop 11 (by assumption) | exact Views.of_drop 12 (by assumption)) (by first | omega | (simp only [List.length_cons, List.length_nil]; omega) | (simp; done) | (simp; omega))) rfl ?_
           clear h a w; intro a w h
           refine wv h (r_elMf h rfl K.u_int rfl (by first | exact Views.own 0 rfl | exact Views.own 1 rfl | exact Views.own 2 rfl | exact Views.own 3 rfl | exact Views.own 4 rfl | exact Views.own 5 rfl | assumption | exact Views.of_drop 1 (by assumption) | exact Views.of_drop 2 (by assumption) | exact Views.of_drop 3 (by assumption) | exact Views.of_drop 4 (by assumption) | exact Views.of_drop 5 (by assumption) | exact Views.of_drop 6 (by assumption) | exact Views.of_drop 7 (by assumption) | exact Views.of_drop 8 (by assumption) | exact Views.of_drop 9 (by assumption) | exact Views.of_drop 10 (by assumption) | exact Views.of_drop 11 (by assumption) | exact Views.of_drop 12 (by assumption)) (by assumption) rfl) rfl ?_
           clear h a w; intro a w h
           refine wv h (r_assign h rfl) rfl ?_
           clear h a w; intro a w h
           refine wnil ?_
           refine b_normal ?_
           refine c_then ?_
           refine c_region ?_
           refine wv h (r_move h rfl) rfl ?_
           clear h a w; intro a w h
           refine wv h (r_bin h rfl rfl (B.add_i64 (by omega) (by omega))) rfl ?_
           clear h a w; intro a w h
           refine wv h (r_assign h rfl) rfl ?_
           clear h a w; intro a w h
           refine wnil ?_
           exact ⟨(i + 1, x.parent), h.keep [0, 4, 10, 11], ⟨by show i + 1 ≤ l.length; omega, hx2⟩, by show l.length - (i + 1) < l.length - i; omega⟩
        ·
         obtain rfl : i = l.length := by omega
         rw [Nat.sub_self, ringE] at hx2
         refine c_exit ?_
         refine e_then ?_
         refine e_then ?_
         refine e_here ?_
         refine c_then ?_
         refine c_seq (c_region ?_)
         refine wv h (r_assign h rfl) rfl ?_
         clear h a w; intro a w h
         refine wnil (c_then ?_)
         refine c_ret ?_
         exact ret1 h rfl rfl ⟨(), by rw [brkE, brk5, ← hx2], h.2.drop 1, trivial⟩
     ·
      refine c_seq (c_region ?_)
      refine wv h (r_bin h rfl rfl (B.eql_int)) rfl ?_
      clear h a w; intro a w h
      refine wv h (r_assign h rfl) rfl ?_
      clear h a w; intro a w h
      refine wnil (c_then ?_)
      first
       | refine c_condD h rfl (fun ht11 => ?_) (fun ht11 => ?_)
       | refine c_condP h rfl (by first | (simp only [Bool.and_eq_true, Bool.or_eq_true, Bool.not_eq_true', decide_eq_true_eq, decide_eq_false_iff_not, ne_eq, Bool.not_eq_eq_eq_not, Bool.not_true, beq_iff_eq, bne_iff_ne]; exact Iff.rfl) | exact Iff.rfl) (fun ht11 => ?_) (fun ht11 => ?_)
      ·
       obtain rfl : r = 6 := by omega
       as_aux_lemma =>
        refine c_seq (c_region ?_)
        refine wv h (r_move h rfl) rfl ?_
        clear h a w; intro a w h
        refine wv h (r_fieldAddr h 6 rfl K.u_api_Elem rfl K.sz_int rfl rfl) rfl ?_
        clear h a w; intro a w h
        first
                | (refine wv h (r_ldN h rfl K.u_int rfl 0 rfl rfl) rfl ?_)
                | (refine wv h (r_ldN h rfl K.u_int rfl 1 rfl rfl) rfl ?_)
                | (refine wv h (r_ldN h rfl K.u_int rfl 2 rfl rfl) rfl ?_)
                | (refine wv h (r_ldN h rfl K.u_int rfl 3 rfl rfl) rfl ?_)
                | (refine wv h (r_ldN h rfl K.u_int rfl 4 rfl rfl) rfl ?_)
                | (refine wv h (r_ldN h rfl K.u_int rfl 5 rfl rfl) rfl ?_)
                | (refine wv h (r_ldN h rfl K.u_int rfl 6 rfl rfl) rfl ?_)
                | (refine wv h (r_ldC (o := 6) h rfl K.u_int rfl 0 rfl) rfl ?_)
                | (refine wv h (r_ldC (o := 6) h rfl K.u_int rfl 1 rfl) rfl ?_)
                | (refine wv h (r_ldC (o := 6) h rfl K.u_int rfl 2 rfl) rfl ?_)
                | (refine wv h (r_ldC (o := 6) h rfl K.u_int rfl 3 rfl) rfl ?_)
                | (refine wv h (r_ldC (o := 6) h rfl K.u_int rfl 4 rfl) rfl ?_)
                | (refine wv h (r_ldC (o := 6) h rfl K.u_int rfl 5 rfl) rfl ?_)
                | (refine wv h (r_ldC (o := 6) h rfl K.u_int rfl 6 rfl) rfl ?_)
                | (refine wv h (r_load h rfl K.u_int rfl 0 rfl rfl) rfl ?_)
                | (refine wv h (r_load h rfl K.u_int rfl 1 rfl rfl) rfl ?_)
                | (refine wv h (r_load h rfl K.u_int rfl 2 rfl rfl) rfl ?_)
                | (refine wv h (r_load h rfl K.u_int rfl 3 rfl rfl) rfl ?_)
                | (refine wv h (r_load h rfl K.u_int rfl 4 rfl rfl) rfl ?_)
                | (refine wv h (r_load h rfl K.u_int rfl 5 rfl rfl) rfl ?_)
                | (refine wv h (r_load1 h rfl K.u_int rfl (by assumption)) rfl ?_)
        clear h a w; intro a w h
        refine wl rfl (op_call h rfl K.go_ref09_kind (ref09_kind s _ _ _ _ _ (by first | exact Views.own 0 rfl | exact Views.own 1 rfl | exact Views.own 2 rfl | exact Views.own 3 rfl | exact Views.own 4 rfl | exact Views.own 5 rfl | assumption | exact Views.of_drop 1 (by assumption) | exact Views.of_drop 2 (by assumption) | exact Views.of_drop 3 (by assumption) | exact Views.of_drop 4 (by assumption) | exact Views.of_drop 5 (by assumption) | exact Views.of_drop 6 (by assumption) | exact Views.of_drop 7 (by assumption) | exact Views.of_drop 8 (by assumption) | exact Views.of_drop 9 (by assumption) | exact Views.of_drop 10 (by assumption) | exact Views.of_drop 11 (by assumption) | exact Views.of_drop 12 (by assumption)) h.2) rfl ?_)
        clear h a w; intro x a w hx h
        (try simp only [List.set_cons_zero, List.set_cons_succ] at h)
        refine wv h (r_assign h rfl) rfl ?_
        clear h a w; intro a w h
        refine wnil (c_then ?_)
        refine c_seq (c_region ?_)
        refine wv h (r_fieldAddr h 1 rfl K.u_api_Elem rfl K.sz_uint8 rfl rfl) rfl ?_
        clear h a w; intro a w h
        first
                | (refine wv h (r_ldN h rfl K.u_uint8 rfl 0 rfl rfl) rfl ?_)
                | (refine wv h (r_ldN h rfl K.u_uint8 rfl 1 rfl rfl) rfl ?_)
                | (refine wv h (r_ldN h rfl K.u_uint8 rfl 2 rfl rfl) rfl ?_)
                | (refine wv h (r_ldN h rfl K.u_uint8 rfl 3 rfl rfl) rfl ?_)
                | (refine wv h (r_ldN h rfl K.u_uint8 rfl 4 rfl rfl) rfl ?_)
                | (refine wv h (r_ldN h rfl K.u_uint8 rfl 5 rfl rfl) rfl ?_)
                | (refine wv h (r_ldN h rfl K.u_uint8 rfl 6 rfl rfl) rfl ?_)
                | (refine wv h (r_ldC (o := 1) h rfl K.u_uint8 rfl 0 rfl) rfl ?_)
                | (refine wv h (r_ldC (o := 1) h rfl K.u_uint8 rfl 1 rfl) rfl ?_)
                | (refine wv h (r_ldC (o := 1) h rfl K.u_uint8 rfl 2 rfl) rfl ?_)
                | (refine wv h (r_ldC (o := 1) h rfl K.u_uint8 rfl 3 rfl) rfl ?_)
                | (refine wv h (r_ldC (o := 1) h rfl K.u_uint8 rfl 4 rfl) rfl ?_)
                | (refine wv h (r_ldC (o := 1) h rfl K.u_uint8 rfl 5 rfl) rfl ?_)
                | (refine wv h (r_ldC (o := 1) h rfl K.u_uint8 rfl 6 rfl) rfl ?_)
                | (refine wv h (r_load h rfl K.u_uint8 rfl 0 rfl rfl) rfl ?_)
                | (refine wv h (r_load h rfl K.u_uint8 rfl 1 rfl rfl) rfl ?_)
                | (refine wv h (r_load h rfl K.u_uint8 rfl 2 rfl rfl) rfl ?_)
                | (refine wv h (r_load h rfl K.u_uint8 rfl 3 rfl rfl) rfl ?_)
                | (refine wv h (r_load h rfl K.u_uint8 rfl 4 rfl rfl) rfl ?_)
                | (refine wv h (r_load h rfl K.u_uint8 rfl 5 rfl rfl) rfl ?_)
                | (refine wv h (r_load1 h rfl K.u_uint8 rfl (by assumption)) rfl ?_)
        clear h a w; intro a w h
        refine wv h (r_bin h rfl rfl (B.eql_u8 (y := 5))) rfl ?_
        clear h a w; intro a w h
        refine wv h (r_move h rfl) rfl ?_
        clear h a w; intro a w h
        refine wvG h (by first | exact .t rfl | exact .f rfl | exact .gt rfl | exact .gf rfl) (fun hg => by (try simp only [↓gval_on hg, ↓gval_and hg] at h); (have hg2 := hg; (try simp only [Bool.and_eq_true, Bool.or_eq_true, Bool.not_eq_true', decide_eq_true_eq, decide_eq_false_iff_not] at hg2)); first | exact r_move h rfl) rfl ?_
        clear h a w; intro a w h
        refine wvG h (by first | exact .t rfl | exact .f rfl | exact .gt rfl | exact .gf rfl) (fun hg => by (try simp only [↓gval_on hg, ↓gval_and hg] at h); (have hg2 := hg; (try simp only [Bool.and_eq_true, Bool.or_eq_true, Bool.not_eq_true', decide_eq_true_eq, decide_eq_false_iff_not] at hg2)); first | exact r_fieldAddr h 5 rfl K.u_api_Elem rfl K.sz_int rfl rfl) rfl ?_
        clear h a w; intro a w h
        refine wvG h (by first | exact .t rfl | exact .f rfl | exact .gt rfl | exact .gf rfl) (fun hg => by (try simp only [↓gval_on hg, ↓gval_and hg] at h); (have hg2 := hg; (try simp only [Bool.and_eq_true, Bool.or_eq_true, Bool.not_eq_true', decide_eq_true_eq, decide_eq_false_iff_not] at hg2)); first | exact r_ldN h rfl K.u_int rfl 0 rfl rfl | exact r_ldN h rfl K.u_int rfl 1 rfl rfl | exact r_ldN h rfl K.u_int rfl 2 rfl rfl | exact r_ldN h rfl K.u_int rfl 3 rfl rfl | exact r_ldN h rfl K.u_int rfl 4 rfl rfl | exact r_ldN h rfl K.u_int rfl 5 rfl rfl | exact r_ldN h rfl K.u_int rfl 6 rfl rfl | exact r_ldC (o := 5) h rfl K.u_int rfl 0 rfl | exact r_ldC (o := 5) h rfl K.u_int rfl 1 rfl | exact r_ldC (o := 5) h rfl K.u_int rfl 2 rfl | exact r_ldC (o := 5) h rfl K.u_int rfl 3 rfl | exact r_ldC (o := 5) h rfl K.u_int rfl 4 rfl | exact r_ldC (o := 5) h rfl K.u_int rfl 5 rfl | exact r_ldC (o := 5) h rfl K.u_int rfl 6 rfl | exact r_load h rfl K.u_int rfl 0 rfl rfl | exact r_load h rfl K.u_int rfl 1 rfl rfl | exact r_load h rfl K.u_int rfl 2 rfl rfl | exact r_load h rfl K.u_int rfl 3 rfl rfl | exact r_load h rfl K.u_int rfl 4 rfl rfl | exact r_load h rfl K.u_int rfl 5 rfl rfl | exact r_load1 h rfl K.u_int rfl (by assumption)) rfl ?_
        clear h a w; intro a w h
        refine wcG h (by first | exact .t rfl | exact .f rfl | exact .gt rfl | exact .gf rfl) K.go_ref09_kind (fun hg => by (try simp only [↓gval_on hg, ↓gval_and hg]); (have hg2 := hg; (try simp only [Bool.and_eq_true, Bool.or_eq_true, Bool.not_eq_true', decide_eq_true_eq, decide_eq_false_iff_not] at hg2)); exact ⟨_, rfl, ref09_kind s _ _ _ _ _ (by first | exact Views.own 0 rfl | exact Views.own 1 rfl | exact Views.own 2 rfl | exact Views.own 3 rfl | exact Views.own 4 rfl | exact Views.own 5 rfl | assumption | exact Views.of_drop 1 (by assumption) | exact Views.of_drop 2 (by assumption) | exact Views.of_drop 3 (by assumption) | exact Views.of_drop 4 (by assumption) | exact Views.of_drop 5 (by assumption) | exact Views.of_drop 6 (by assumption) | exact Views.of_drop 7 (by assumption) | exact Views.of_drop 8 (by assumption) | exact Views.of_drop 9 (by assumption) | exact Views.of_drop 10 (by assumption) | exact Views.of_drop 11 (by assumption) | exact Views.of_drop 12 (by assumption)) h.2⟩) rfl ?_
        clear h a w; intro a w h
        refine wvG h (by first | exact .t rfl | exact .f rfl | exact .gt rfl | exact .gf rfl) (fun hg => by (try simp only [↓gval_on hg, ↓gval_and hg] at h); (have hg2 := hg; (try simp only [Bool.and_eq_true, Bool.or_eq_true, Bool.not_eq_true', decide_eq_true_eq, decide_eq_false_iff_not] at hg2)); first | exact r_bin h rfl rfl (B.neq_u8 (y := 1))) rfl ?_
        clear h a w; intro a w h
        refine wvG h (by first | exact .t rfl | exact .f rfl | exact .gt rfl | exact .gf rfl) (fun hg => by (try simp only [↓gval_on hg, ↓gval_and hg] at h); (have hg2 := hg; (try simp only [Bool.and_eq_true, Bool.or_eq_true, Bool.not_eq_true', decide_eq_true_eq, decide_eq_false_iff_not] at hg2)); first | exact r_move h rfl) rfl ?_
        clear h a w; intro a w h
        refine wvG h (by first | exact .t rfl | exact .f rfl | exact .gt rfl | exact .gf rfl) (fun hg => by (try simp only [↓gval_on hg, ↓gval_and hg] at h); (have hg2 := hg; (try simp only [Bool.and_eq_true, Bool.or_eq_true, Bool.not_eq_true', decide_eq_true_eq, decide_eq_false_iff_not] at hg2)); first | exact r_move h rfl) rfl ?_
        clear h a w; intro a w h
        refine wvG h (by first | exact .t rfl | exact .f rfl | exact .gt rfl | exact .gf rfl) (fun hg => by (try simp only [↓gval_on hg, ↓gval_and hg] at h); (have hg2 := hg; (try simp only [Bool.and_eq_true, Bool.or_eq_true, Bool.not_eq_true', decide_eq_true_eq, decide_eq_false_iff_not] at hg2)); first | exact r_bin h rfl rfl (B.neq_u8 (y := 1))) rfl ?_
        clear h a w; intro a w h
        refine wvG h (by first | exact .t rfl | exact .f rfl | exact .gt rfl | exact .gf rfl) (fun hg => by (try simp only [↓gval_on hg, ↓gval_and hg] at h); (have hg2 := hg; (try simp only [Bool.and_eq_true, Bool.or_eq_true, Bool.not_eq_true', decide_eq_true_eq, decide_eq_false_iff_not] at hg2)); first | exact r_move h rfl) rfl ?_
        clear h a w; intro a w h
        refine wvG h (by first | exact .t rfl | exact .f rfl | exact .gt rfl | exact .gf rfl) (fun hg => by (try simp only [↓gval_on hg, ↓gval_and hg] at h); (have hg2 := hg; (try simp only [Bool.and_eq_true, Bool.or_eq_true, Bool.not_eq_true', decide_eq_true_eq, decide_eq_false_iff_not] at hg2)); first | exact r_move h rfl) rfl ?_
        clear h a w; intro a w h
        refine wvG h (by first | exact .t rfl | exact .f rfl | exact .gt rfl | exact .gf rfl) (fun hg => by (try simp only [↓gval_on hg, ↓gval_and hg] at h); (have hg2 := hg; (try simp only [Bool.and_eq_true, Bool.or_eq_true, Bool.not_eq_true', decide_eq_true_eq, decide_eq_false_iff_not] at hg2)); first | exact r_bin h rfl rfl (B.neq_u8 (y := 3))) rfl ?_
        clear h a w; intro a w h
        refine wvG h (by first | exact .t rfl | exact .f rfl | exact .gt rfl | exact .gf rfl) (fun hg => by (try simp only [↓gval_on hg, ↓gval_and hg] at h); (have hg2 := hg; (try simp only [Bool.and_eq_true, Bool.or_eq_true, Bool.not_eq_true', decide_eq_true_eq, decide_eq_false_iff_not] at hg2)); first | exact r_pickA h rfl rfl rfl | exact r_pickO h rfl rfl rfl | exact r_pick_true h rfl rfl | exact r_pick_false h rfl rfl | exact r_pick h rfl rfl rfl) rfl ?_
        clear h a w; intro a w h
        refine wvG h (by first | exact .t rfl | exact .f rfl | exact .gt rfl | exact .gf rfl) (fun hg => by (try simp only [↓gval_on hg, ↓gval_and hg] at h); (have hg2 := hg; (try simp only [Bool.and_eq_true, Bool.or_eq_true, Bool.not_eq_true', decide_eq_true_eq, decide_eq_false_iff_not] at hg2)); first | exact r_move h rfl) rfl ?_
        clear h a w; intro a w h
        refine wvG h (by first | exact .t rfl | exact .f rfl | exact .gt rfl | exact .gf rfl) (fun hg => by (try simp only [↓gval_on hg, ↓gval_and hg] at h); (have hg2 := hg; (try simp only [Bool.and_eq_true, Bool.or_eq_true, Bool.not_eq_true', decide_eq_true_eq, decide_eq_false_iff_not] at hg2)); first | exact r_move h rfl) rfl ?_
        clear h a w; intro a w h
        refine wvG h (by first | exact .t rfl | exact .f rfl | exact .gt rfl | exact .gf rfl) (fun hg => by (try simp only [↓gval_on hg, ↓gval_and hg] at h); (have hg2 := hg; (try simp only [Bool.and_eq_true, Bool.or_eq_true, Bool.not_eq_true', decide_eq_true_eq, decide_eq_false_iff_not] at hg2)); first | exact r_bin h rfl rfl (B.neq_u8 (y := 4))) rfl ?_
        clear h a w; intro a w h
        refine wvG h (by first | exact .t rfl | exact .f rfl | exact .gt rfl | exact .gf rfl) (fun hg => by (try simp only [↓gval_on hg, ↓gval_and hg] at h); (have hg2 := hg; (try simp only [Bool.and_eq_true, Bool.or_eq_true, Bool.not_eq_true', decide_eq_true_eq, decide_eq_false_iff_not] at hg2)); first | exact r_pickA h rfl rfl rfl | exact r_pickO h rfl rfl rfl | exact r_pick_true h rfl rfl | exact r_pick_false h rfl rfl | exact r_pick h rfl rfl rfl) rfl ?_
        clear h a w; intro a w h
        refine wvG h (by first | exact .t rfl | exact .f rfl | exact .gt rfl | exact .gf rfl) (fun hg => by (try simp only [↓gval_on hg, ↓gval_and hg] at h); (have hg2 := hg; (try simp only [Bool.and_eq_true, Bool.or_eq_true, Bool.not_eq_true', decide_eq_true_eq, decide_eq_false_iff_not] at hg2)); first | exact r_pickA h rfl rfl rfl | exact r_pickO h rfl rfl rfl | exact r_pick_true h rfl rfl | exact r_pick_false h rfl rfl | exact r_pick h rfl rfl rfl) rfl ?_
        clear h a w; intro a w h
        first
                | (refine wv h (r_pickA h rfl rfl rfl) rfl ?_)
                | (refine wv h (r_pickO h rfl rfl rfl) rfl ?_)
                | (refine wv h (r_pick_true h rfl rfl) rfl ?_)
                | (refine wv h (r_pick_false h rfl rfl) rfl ?_)
                | (refine wv h (r_pick h rfl rfl rfl) rfl ?_)
        clear h a w; intro a w h
        refine wv h (r_assign h rfl) rfl ?_
        clear h a w; intro a w h
        refine wnil (c_then ?_)
        refine c_ret ?_
        exact ret1 h rfl rfl ⟨(), rfl, h.2.drop 1, trivial⟩
      ·
       refine c_seq (c_region ?_)
       refine wv h (r_bin h rfl rfl (B.eql_int)) rfl ?_
       clear h a w; intro a w h
       refine wv h (r_assign h rfl) rfl ?_
       clear h a w; intro a w h
       refine wnil (c_then ?_)
       first
        | refine c_condD h rfl (fun ht12 => ?_) (fun ht12 => ?_)
        | refine c_condP h rfl (by first | (simp only [Bool.and_eq_true, Bool.or_eq_true, Bool.not_eq_true', decide_eq_true_eq, decide_eq_false_iff_not, ne_eq, Bool.not_eq_eq_eq_not, Bool.not_true, beq_iff_eq, bne_iff_ne]; exact Iff.rfl) | exact Iff.rfl) (fun ht12 => ?_) (fun ht12 => ?_)
       ·
        obtain rfl : r = 7 := by omega
        as_aux_lemma =>
         refine c_seq ?_
         refine c_seq (c_region ?_)
         refine wv h (r_assign h rfl) rfl ?_
         clear h a w; intro a w h
         refine wnil (c_then ?_)
         refine c_block ?_
         refine c_loopX h (X := Nat) (fun i => [(0, v), (4, .pointer (some ⟨b4, 0, none⟩)), (14, .int .i64 (i : Int))]) (fun _ => Blk b4 (.cells ⟨cellsE e⟩ t_api_Elem) :: F) (fun i => i ≤ l.length ∧ (l.drop i).any (hit7 e) = l.any (hit7 e)) (fun i => l.length - i) 0 (h.keep [0, 4, 14]) ⟨Nat.zero_le _, rfl⟩ ?_
         clear h a w; intro i a w hx h
         obtain ⟨hx1, hx2⟩ := hx
         as_aux_lemma =>
          refine c_seq ?_
          refine c_seq (c_region ?_)
          refine wv h (r_move h rfl) rfl ?_
          clear h a w; intro a w h
          refine wv h (r_move h rfl) rfl ?_
          clear h a w; intro a w h
          refine wv h (r_lenV h rfl K.u_api_Chart (by first | exact Views.own 0 rfl | exact Views.own 1 rfl | exact Views.own 2 rfl | exact Views.own 3 rfl | exact Views.own 4 rfl | exact Views.own 5 rfl | assumption | exact Views.of_drop 1 (by assumption) | exact Views.of_drop 2 (by assumption) | exact Views.of_drop 3 (by assumption) | exact Views.of_drop 4 (by assumption) | exact Views.of_drop 5 (by assumption) | exact Views.of_drop 6 (by assumption) | exact Views.of_drop 7 (by assumption) | exact Views.of_drop 8 (by assumption) | exact Views.of_drop 9 (by assumption) | exact Views.of_drop 10 (by assumption) | exact Views.of_drop 11 (by assumption) | exact Views.of_drop 12 (by assumption))) rfl ?_
          clear h a w; intro a w h
          refine wv h (r_bin h rfl rfl (B.lss_int)) rfl ?_
          clear h a w; intro a w h
          refine wnil (c_then ?_)
          first
           | refine c_condD h rfl (fun ht13 => ?_) (fun ht13 => ?_)
           | refine c_condP h rfl (by first | (simp only [Bool.and_eq_true, Bool.or_eq_true, Bool.not_eq_true', decide_eq_true_eq, decide_eq_false_iff_not, ne_eq, Bool.not_eq_eq_eq_not, Bool.not_true, beq_iff_eq, bne_iff_ne]; exact Iff.rfl) | exact Iff.rfl) (fun ht13 => ?_) (fun ht13 => ?_)
          ·
           obtain ⟨x, hex⟩ := get_some (l := l) (i := i) (by omega)
           rw [any_drop hex] at hx2
           refine c_skip ?_
           refine c_then ?_
           refine c_seq ?_
           refine c_block ?_
           refine c_seq (c_draw K.mixed (by kernel_rfl) h ?_)
           clear h a w; intro a hE
           first
                      | (refine qv hE (fun w hw => r_fieldAddr ⟨hE, hw⟩ 1 rfl K.u_api_Elem rfl K.sz_uint8 rfl rfl) rfl ?_)
                      | (refine qv hE (fun w hw => op_fieldC ⟨hE, hw⟩ 1 rfl K.u_api_Elem rfl K.sz_uint8 rfl rfl (by assumption) rfl) rfl ?_)
           clear hE a; intro a hE
           first
                      | (refine qv hE (fun w hw => r_ldN ⟨hE, hw⟩ rfl K.u_uint8 rfl 0 rfl rfl) rfl ?_)
                      | (refine qv hE (fun w hw => r_ldN ⟨hE, hw⟩ rfl K.u_uint8 rfl 1 rfl rfl) rfl ?_)
                      | (refine qv hE (fun w hw => r_ldN ⟨hE, hw⟩ rfl K.u_uint8 rfl 2 rfl rfl) rfl ?_)
                      | (refine qv hE (fun w hw => r_ldN ⟨hE, hw⟩ rfl K.u_uint8 rfl 3 rfl rfl) rfl ?_)
                      | (refine qv hE (fun w hw => r_ldN ⟨hE, hw⟩ rfl K.u_uint8 rfl 4 rfl rfl) rfl ?_)
                      | (refine qv hE (fun w hw => r_ldN ⟨hE, hw⟩ rfl K.u_uint8 rfl 5 rfl rfl) rfl ?_)
                      | (refine qv hE (fun w hw => r_ldN ⟨hE, hw⟩ rfl K.u_uint8 rfl 6 rfl rfl) rfl ?_)
                      | (refine qv hE (fun w hw => r_ldC (o := 1) ⟨hE, hw⟩ rfl K.u_uint8 rfl 0 rfl) rfl ?_)
                      | (refine qv hE (fun w hw => r_ldC (o := 1) ⟨hE, hw⟩ rfl K.u_uint8 rfl 1 rfl) rfl ?_)
                      | (refine qv hE (fun w hw => r_ldC (o := 1) ⟨hE, hw⟩ rfl K.u_uint8 rfl 2 rfl) rfl ?_)
                      | (refine qv hE (fun w hw => r_ldC (o := 1) ⟨hE, hw⟩ rfl K.u_uint8 rfl 3 rfl) rfl ?_)
                      | (refine qv hE (fun w hw => r_ldC (o := 1) ⟨hE, hw⟩ rfl K.u_uint8 rfl 4 rfl) rfl ?_)
                      | (refine qv hE (fun w hw => r_ldC (o := 1) ⟨hE, hw⟩ rfl K.u_uint8 rfl 5 rfl) rfl ?_)
                      | (refine qv hE (fun w hw => r_ldC (o := 1) ⟨hE, hw⟩ rfl K.u_uint8 rfl 6 rfl) rfl ?_)
                      | (refine qv hE (fun w hw => r_load ⟨hE, hw⟩ rfl K.u_uint8 rfl 0 rfl rfl) rfl ?_)
                      | (refine qv hE (fun w hw => r_load ⟨hE, hw⟩ rfl K.u_uint8 rfl 1 rfl rfl) rfl ?_)
                      | (refine qv hE (fun w hw => r_load ⟨hE, hw⟩ rfl K.u_uint8 rfl 2 rfl rfl) rfl ?_)
                      | (refine qv hE (fun w hw => r_load ⟨hE, hw⟩ rfl K.u_uint8 rfl 3 rfl rfl) rfl ?_)
                      | (refine qv hE (fun w hw => r_load ⟨hE, hw⟩ rfl K.u_uint8 rfl 4 rfl rfl) rfl ?_)
                      | (refine qv hE (fun w hw => r_load ⟨hE, hw⟩ rfl K.u_uint8 rfl 5 rfl rfl) rfl ?_)
                      | (refine qv hE (fun w hw => r_load1 ⟨hE, hw⟩ rfl K.u_uint8 rfl (by assumption)) rfl ?_)
           clear hE a; intro a hE
           refine qv hE (fun w hw => r_bin ⟨hE, hw⟩ rfl rfl (B.eql_u8 (y := 5))) rfl ?_
           clear hE a; intro a hE
           refine qv hE (fun w hw => r_move ⟨hE, hw⟩ rfl) rfl ?_
           clear hE a; intro a hE
           refine qvG hE (by first | exact .t rfl | exact .f rfl | exact .gt rfl | exact .gf rfl) (fun hg w hw => by (try simp only [↓gval_on hg, ↓gval_and hg] at hE); (have hg2 := hg; (try simp only [Bool.and_eq_true, Bool.or_eq_true, Bool.not_eq_true', decide_eq_true_eq, decide_eq_false_iff_not] at hg2)); first | exact r_move ⟨hE, hw⟩ rfl) rfl ?_
           clear hE a; intro a hE
           refine qvG hE (by first | exact .t rfl | exact .f rfl | exact .gt rfl | exact .gf rfl) (fun hg w hw => by (try simp only [↓gval_on hg, ↓gval_and hg] at hE); (have hg2 := hg; (try simp only [Bool.and_eq_true, Bool.or_eq_true, Bool.not_eq_true', decide_eq_true_eq, decide_eq_false_iff_not] at hg2)); first | exact r_move ⟨hE, hw⟩ rfl) rfl ?_
           clear hE a; intro a hE
           refine qvG hE (by first | exact .t rfl | exact .f rfl | exact .gt rfl | exact .gf rfl) (fun hg w hw => by (try simp only [↓gval_on hg, ↓gval_and hg] at hE); (have hg2 := hg; (try simp only [Bool.and_eq_true, Bool.or_eq_true, Bool.not_eq_true', decide_eq_true_eq, decide_eq_false_iff_not] at hg2)); first | exact r_elP ⟨hE, hw⟩ rfl rfl K.u_api_Chart K.sz_api_Elem (by first | exact Views.own 0 rfl | exact Views.own 1 rfl | exact Views.own 2 rfl | exact Views.own 3 rfl | exact Views.own 4 rfl | exact Views.own 5 rfl | assumption | exact Views.of_drop 1 (by assumption) | exact Views.of_drop 2 (by assumption) | exact Views.of_drop 3 (by assumption) | exact Views.of_drop 4 (by assumption) | exact Views.of_drop 5 (by assumption) | exact Views.of_drop 6 (by assumption) | exact Views.of_drop 7 (by assumption) | exact Views.of_drop 8 (by assumption) | exact Views.of_drop 9 (by assumption) | exact Views.of_drop 10 (by assumption) | exact Views.of_drop 11 (by assumption) | exact Views.of_drop 12 (by assumption)) (by first | omega | (simp; done)) (by first | omega | (simp only [List.length_cons, List.length_nil]; omega) | (simp; done) | (simp; omega))) rfl ?_
           clear hE a; intro a hE
           refine qvG hE (by first | exact .t rfl | exact .f rfl | exact .gt rfl | exact .gf rfl) (fun hg w hw => by (try simp only [↓gval_on hg, ↓gval_and hg] at hE); (have hg2 := hg; (try simp only [Bool.and_eq_true, Bool.or_eq_true, Bool.not_eq_true', decide_eq_true_eq, decide_eq_false_iff_not] at hg2)); first | exact r_elF ⟨hE, hw⟩ 1 rfl K.u_api_Elem rfl K.sz_uint8 rfl rfl (by first | exact Views.own 0 rfl | exact Views.own 1 rfl | exact Views.own 2 rfl | exact Views.own 3 rfl | exact Views.own 4 rfl | exact Views.own 5 rfl | assumption | exact Views.of_drop 1 (by assumption) | exact Views.of_drop 2 (by assumption) | exact Views.of_drop 3 (by assumption) | exact Views.of_drop 4 (by assumption) | exact Views.of_drop 5 (by assumption) | exact Views.of_drop 6 (by assumption) | exact Views.of_drop 7 (by assumption) | exact Views.of_drop 8 (by assumption) | exact Views.of_drop 9 (by assumption) | exact Views.of_drop 10 (by assumption) | exact Views.of_drop 11 (by assumption) | exact Views.of_drop 12 (by assumption)) (by first | omega | (simp only [List.length_cons, List.length_nil]; omega) | (simp; done) | (simp; omega))) rfl ?_
           clear hE a; intro a hE
           refine qvG hE (by first | exact .t rfl | exact .f rfl | exact .gt rfl | exact .gf rfl) (fun hg w hw => by (try simp only [↓gval_on hg, ↓gval_and hg] at hE); (have hg2 := hg; (try simp only [Bool.and_eq_true, Bool.or_eq_true, Bool.not_eq_true', decide_eq_true_eq, decide_eq_false_iff_not] at hg2)); first | exact r_elMf ⟨hE, hw⟩ rfl K.u_uint8 rfl (by first | exact Views.own 0 rfl | exact Views.own 1 rfl | exact Views.own 2 rfl | exact Views.own 3 rfl | exact Views.own 4 rfl | exact Views.own 5 rfl | assumption | exact Views.of_drop 1 (by assumption) | exact Views.of_drop 2 (by assumption) | exact Views.of_drop 3 (by assumption) | exact Views.of_drop 4 (by assumption) | exact Views.of_drop 5 (by assumption) | exact Views.of_drop 6 (by assumption) | exact Views.of_drop 7 (by assumption) | exact Views.of_drop 8 (by assumption) | exact Views.of_drop 9 (by assumption) | exact Views.of_drop 10 (by assumption) | exact Views.of_drop 11 (by assumption) | exact Views.of_drop 12 (by assumption)) (by assumption) rfl) rfl ?_
           clear hE a; intro a hE
           refine qvG hE (by first | exact .t rfl | exact .f rfl | exact .gt rfl | exact .gf rfl) (fun hg w hw => by (try simp only [↓gval_on hg, ↓gval_and hg] at hE); (have hg2 := hg; (try simp only [Bool.and_eq_true, Bool.or_eq_true, Bool.not_eq_true', decide_eq_true_eq, decide_eq_false_iff_not] at hg2)); first | exact r_bin ⟨hE, hw⟩ rfl rfl (B.eql_u8 (y := 5))) rfl ?_
           clear hE a; intro a hE
           first
                      | (refine qv hE (fun w hw => r_pickA ⟨hE, hw⟩ rfl rfl rfl) rfl ?_)
                      | (refine qv hE (fun w hw => r_pickO ⟨hE, hw⟩ rfl rfl rfl) rfl ?_)
                      | (refine qv hE (fun w hw => r_pick_true ⟨hE, hw⟩ rfl rfl) rfl ?_)
                      | (refine qv hE (fun w hw => r_pick_false ⟨hE, hw⟩ rfl rfl) rfl ?_)
                      | (refine qv hE (fun w hw => r_pick ⟨hE, hw⟩ rfl rfl rfl) rfl ?_)
           clear hE a; intro a hE
           refine qv hE (fun w hw => r_move ⟨hE, hw⟩ rfl) rfl ?_
           clear hE a; intro a hE
           refine qvG hE (by first | exact .t rfl | exact .f rfl | exact .gt rfl | exact .gf rfl) (fun hg w hw => by (try simp only [↓gval_on hg, ↓gval_and hg] at hE); (have hg2 := hg; (try simp only [Bool.and_eq_true, Bool.or_eq_true, Bool.not_eq_true', decide_eq_true_eq, decide_eq_false_iff_not] at hg2)); first | exact r_move ⟨hE, hw⟩ rfl) rfl ?_
           clear hE a; intro a hE
           refine qvG hE (by first | exact .t rfl | exact .f rfl | exact .gt rfl | exact .gf rfl) (fun hg w hw => by (try simp only [↓gval_on hg, ↓gval_and hg] at hE); (have hg2 := hg; (try simp only [Bool.and_eq_true, Bool.or_eq_true, Bool.not_eq_true', decide_eq_true_eq, decide_eq_false_iff_not] at hg2)); first | exact r_move ⟨hE, hw⟩ rfl) rfl ?_
           clear hE a; intro a hE
           refine qvG hE (by first | exact .t rfl | exact .f rfl | exact .gt rfl | exact .gf rfl) (fun hg w hw => by (try simp only [↓gval_on hg, ↓gval_and hg] at hE); (have hg2 := hg; (try simp only [Bool.and_eq_true, Bool.or_eq_true, Bool.not_eq_true', decide_eq_true_eq, decide_eq_false_iff_not] at hg2)); first | exact r_elP ⟨hE, hw⟩ rfl rfl K.u_api_Chart K.sz_api_Elem (by first | exact Views.own 0 rfl | exact Views.own 1 rfl | exact Views.own 2 rfl | exact Views.own 3 rfl | exact Views.own 4 rfl | exact Views.own 5 rfl | assumption | exact Views.of_drop 1 (by assumption) | exact Views.of_drop 2 (by assumption) | exact Views.of_drop 3 (by assumption) | exact Views.of_drop 4 (by assumption) | exact Views.of_drop 5 (by assumption) | exact Views.of_drop 6 (by assumption) | exact Views.of_drop 7 (by assumption) | exact Views.of_drop 8 (by assumption) | exact Views.of_drop 9 (by assumption) | exact Views.of_drop 10 (by assumption) | exact Views.of_drop 11 (by assumption) | exact Views.of_drop 12 (by assumption)) (by first | omega | (simp; done)) (by first | omega | (simp only [List.length_cons, List.length_nil]; omega) | (simp; done) | (simp; omega))) rfl ?_
           clear hE a; intro a hE
           refine qvG hE (by first | exact .t rfl | exact .f rfl | exact .gt rfl | exact .gf rfl) (fun hg w hw => by (try simp only [↓gval_on hg, ↓gval_and hg] at hE); (have hg2 := hg; (try simp only [Bool.and_eq_true, Bool.or_eq_true, Bool.not_eq_true', decide_eq_true_eq, decide_eq_false_iff_not] at hg2)); first | exact r_elF ⟨hE, hw⟩ 0 rfl K.u_api_Elem rfl K.sz_int rfl rfl (by first | exact Views.own 0 rfl | exact Views.own 1 rfl | exact Views.own 2 rfl | exact Views.own 3 rfl | exact Views.own 4 rfl | exact Views.own 5 rfl | assumption | exact Views.of_drop 1 (by assumption) | exact Views.of_drop 2 (by assumption) | exact Views.of_drop 3 (by assumption) | exact Views.of_drop 4 (by assumption) | exact Views.of_drop 5 (by assumption) | exact Views.of_drop 6 (by assumption) | exact Views.of_drop 7 (by assumption) | exact Views.of_drop 8 (by assumption) | exact Views.of_drop 9 (by assumption) | exact Views.of_drop 10 (by assumption) | exact Views.of_drop 11 (by assumption) | exact Views.of_drop 12 (by assumption)) (by first | omega | (simp only [List.length_cons, List.length_nil]; omega) | (simp; done) | (simp; omega))) rfl ?_
           clear hE a; intro a hE
           refine qvG hE (by first | exact .t rfl | exact .f rfl | exact .gt rfl | exact .gf rfl) (fun hg w hw => by (try simp only [↓gval_on hg, ↓gval_and hg] at hE); (have hg2 := hg; (try simp only [Bool.and_eq_true, Bool.or_eq_true, Bool.not_eq_true', decide_eq_true_eq, decide_eq_false_iff_not] at hg2)); first | exact r_elMf ⟨hE, hw⟩ rfl K.u_int rfl (by first | exact Views.own 0 rfl | exact Views.own 1 rfl | exact Views.own 2 rfl | exact Views.own 3 rfl | exact Views.own 4 rfl | exact Views.own 5 rfl | assumption | exact Views.of_drop 1 (by assumption) | exact Views.of_drop 2 (by assumption) | exact Views.of_drop 3 (by assumption) | exact Views.of_drop 4 (by assumption) | exact Views.of_drop 5 (by assumption) | exact Views.of_drop 6 (by assumption) | exact Views.of_drop 7 (by assumption) | exact Views.of_drop 8 (by assumption) | exact Views.of_drop 9 (by assumption) | exact Views.of_drop 10 (by assumption) | exact Views.of_drop 11 (by assumption) | exact Views.of_drop 12 (by assumption)) (by assumption) rfl) rfl ?_
           clear hE a; intro a hE
           refine qvG hE (by first | exact .t rfl | exact .f rfl | exact .gt rfl | exact .gf rfl) (fun hg w hw => by (try simp only [↓gval_on hg, ↓gval_and hg] at hE); (have hg2 := hg; (try simp only [Bool.and_eq_true, Bool.or_eq_true, Bool.not_eq_true', decide_eq_true_eq, decide_eq_false_iff_not] at hg2)); first | exact r_fieldAddr0 ⟨hE, hw⟩ rfl K.u_api_Elem rfl K.sz_int rfl rfl | exact op_fieldC ⟨hE, hw⟩ 0 rfl K.u_api_Elem rfl K.sz_int rfl rfl (by assumption) rfl) rfl ?_
           clear hE a; intro a hE
           refine qvG hE (by first | exact .t rfl | exact .f rfl | exact .gt rfl | exact .gf rfl) (fun hg w hw => by (try simp only [↓gval_on hg, ↓gval_and hg] at hE); (have hg2 := hg; (try simp only [Bool.and_eq_true, Bool.or_eq_true, Bool.not_eq_true', decide_eq_true_eq, decide_eq_false_iff_not] at hg2)); first | exact r_ldN ⟨hE, hw⟩ rfl K.u_int rfl 0 rfl rfl | exact r_ldN ⟨hE, hw⟩ rfl K.u_int rfl 1 rfl rfl | exact r_ldN ⟨hE, hw⟩ rfl K.u_int rfl 2 rfl rfl | exact r_ldN ⟨hE, hw⟩ rfl K.u_int rfl 3 rfl rfl | exact r_ldN ⟨hE, hw⟩ rfl K.u_int rfl 4 rfl rfl | exact r_ldN ⟨hE, hw⟩ rfl K.u_int rfl 5 rfl rfl | exact r_ldN ⟨hE, hw⟩ rfl K.u_int rfl 6 rfl rfl | exact r_ldC (o := 0) ⟨hE, hw⟩ rfl K.u_int rfl 0 rfl | exact r_ldC (o := 0) ⟨hE, hw⟩ rfl K.u_int rfl 1 rfl | exact r_ldC (o := 0) ⟨hE, hw⟩ rfl K.u_int rfl 2 rfl | exact r_ldC (o := 0) ⟨hE, hw⟩ rfl K.u_int rfl 3 rfl | exact r_ldC (o := 0) ⟨hE, hw⟩ rfl K.u_int rfl 4 rfl | exact r_ldC (o := 0) ⟨hE, hw⟩ rfl K.u_int rfl 5 rfl | exact r_ldC (o := 0) ⟨hE, hw⟩ rfl K.u_int rfl 6 rfl | exact r_load ⟨hE, hw⟩ rfl K.u_int rfl 0 rfl rfl | exact r_load ⟨hE, hw⟩ rfl K.u_int rfl 1 rfl rfl | exact r_load ⟨hE, hw⟩ rfl K.u_int rfl 2 rfl rfl | exact r_load ⟨hE, hw⟩ rfl K.u_int rfl 3 rfl rfl | exact r_load ⟨hE, hw⟩ rfl K.u_int rfl 4 rfl rfl | exact r_load ⟨hE, hw⟩ rfl K.u_int rfl 5 rfl rfl | exact r_load1 ⟨hE, hw⟩ rfl K.u_int rfl (by assumption)) rfl ?_
           clear hE a; intro a hE
           refine qvG hE (by first | exact .t rfl | exact .f rfl | exact .gt rfl | exact .gf rfl) (fun hg w hw => by (try simp only [↓gval_on hg, ↓gval_and hg] at hE); (have hg2 := hg; (try simp only [Bool.and_eq_true, Bool.or_eq_true, Bool.not_eq_true', decide_eq_true_eq, decide_eq_false_iff_not] at hg2)); first | exact r_bin ⟨hE, hw⟩ rfl rfl (B.neq_int)) rfl ?_
           clear hE a; intro a hE
           first
                      | (refine qv hE (fun w hw => r_pickA ⟨hE, hw⟩ rfl rfl rfl) rfl ?_)
                      | (refine qv hE (fun w hw => r_pickO ⟨hE, hw⟩ rfl rfl rfl) rfl ?_)
                      | (refine qv hE (fun w hw => r_pick_true ⟨hE, hw⟩ rfl rfl) rfl ?_)
                      | (refine qv hE (fun w hw => r_pick_false ⟨hE, hw⟩ rfl rfl) rfl ?_)
                      | (refine qv hE (fun w hw => r_pick ⟨hE, hw⟩ rfl rfl rfl) rfl ?_)
           clear hE a; intro a hE
           refine qv hE (fun w hw => r_move ⟨hE, hw⟩ rfl) rfl ?_
           clear hE a; intro a hE
           refine qvG hE (by first | exact .t rfl | exact .f rfl | exact .gt rfl | exact .gf rfl) (fun hg w hw => by (try simp only [↓gval_on hg, ↓gval_and hg] at hE); (have hg2 := hg; (try simp only [Bool.and_eq_true, Bool.or_eq_true, Bool.not_eq_true', decide_eq_true_eq, decide_eq_false_iff_not] at hg2)); first | exact r_move ⟨hE, hw⟩ rfl) rfl ?_
           clear hE a; intro a hE
           refine qvG hE (by first | exact .t rfl | exact .f rfl | exact .gt rfl | exact .gf rfl) (fun hg w hw => by (try simp only [↓gval_on hg, ↓gval_and hg] at hE); (have hg2 := hg; (try simp only [Bool.and_eq_true, Bool.or_eq_true, Bool.not_eq_true', decide_eq_true_eq, decide_eq_false_iff_not] at hg2)); first | exact r_move ⟨hE, hw⟩ rfl) rfl ?_
           clear hE a; intro a hE
           refine qvG hE (by first | exact .t rfl | exact .f rfl | exact .gt rfl | exact .gf rfl) (fun hg w hw => by (try simp only [↓gval_on hg, ↓gval_and hg] at hE); (have hg2 := hg; (try simp only [Bool.and_eq_true, Bool.or_eq_true, Bool.not_eq_true', decide_eq_true_eq, decide_eq_false_iff_not] at hg2)); first | exact r_elP ⟨hE, hw⟩ rfl rfl K.u_api_Chart K.sz_api_Elem (by first | exact Views.own 0 rfl | exact Views.own 1 rfl | exact Views.own 2 rfl | exact Views.own 3 rfl | exact Views.own 4 rfl | exact Views.own 5 rfl | assumption | exact Views.of_drop 1 (by assumption) | exact Views.of_drop 2 (by assumption) | exact Views.of_drop 3 (by assumption) | exact Views.of_drop 4 (by assumption) | exact Views.of_drop 5 (by assumption) | exact Views.of_drop 6 (by assumption) | exact Views.of_drop 7 (by assumption) | exact Views.of_drop 8 (by assumption) | exact Views.of_drop 9 (by assumption) | exact Views.of_drop 10 (by assumption) | exact Views.of_drop 11 (by assumption) | exact Views.of_drop 12 (by assumption)) (by first | omega | (simp; done)) (by first | omega | (simp only [List.length_cons, List.length_nil]; omega) | (simp; done) | (simp; omega))) rfl ?_
           clear hE a; intro a hE
           refine qvG hE (by first | exact .t rfl | exact .f rfl | exact .gt rfl | exact .gf rfl) (fun hg w hw => by (try simp only [↓gval_on hg, ↓gval_and hg] at hE); (have hg2 := hg; (try simp only [Bool.and_eq_true, Bool.or_eq_true, Bool.not_eq_true', decide_eq_true_eq, decide_eq_false_iff_not] at hg2)); first | exact r_elF ⟨hE, hw⟩ 5 rfl K.u_api_Elem rfl K.sz_int rfl rfl (by first | exact Views.own 0 rfl | exact Views.own 1 rfl | exact Views.own 2 rfl | exact Views.own 3 rfl | exact Views.own 4 rfl | exact Views.own 5 rfl | assumption | exact Views.of_drop 1 (by assumption) | exact Views.of_drop 2 (by assumption) | exact Views.of_drop 3 (by assumption) | exact Views.of_drop 4 (by assumption) | exact Views.of_drop 5 (by assumption) | exact Views.of_drop 6 (by assumption) | exact Views.of_drop 7 (by assumption) | exact Views.of_drop 8 (by assumption) | exact Views.of_drop 9 (by assumption) | exact Views.of_drop 10 (by assumption) | exact Views.of_drop 11 (by assumption) | exact Views.of_drop 12 (by assumption)) (by first | omega | (simp only [List.length_cons, List.length_nil]; omega) | (simp; done) | (simp; omega))) rfl ?_
           clear hE a; intro a hE
           refine qvG hE (by first | exact .t rfl | exact .f rfl | exact .gt rfl | exact .gf rfl) (fun hg w hw => by (try simp only [↓gval_on hg, ↓gval_and hg] at hE); (have hg2 := hg; (try simp only [Bool.and_eq_true, Bool.or_eq_true, Bool.not_eq_true', decide_eq_true_eq, decide_eq_false_iff_not] at hg2)); first | exact r_elMf ⟨hE, hw⟩ rfl K.u_int rfl (by first | exact Views.own 0 rfl | exact Views.own 1 rfl | exact Views.own 2 rfl | exact Views.own 3 rfl | exact Views.own 4 rfl | exact Views.own 5 rfl | assumption | exact Views.of_drop 1 (by assumption) | exact Views.of_drop 2 (by assumption) | exact Views.of_drop 3 (by assumption) | exact Views.of_drop 4 (by assumption) | exact Views.of_drop 5 (by assumption) | exact Views.of_drop 6 (by assumption) | exact Views.of_drop 7 (by assumption) | exact Views.of_drop 8 (by assumption) | exact Views.of_drop 9 (by assumption) | exact Views.of_drop 10 (by assumption) | exact Views.of_drop 11 (by assumption) | exact Views.of_drop 12 (by assumption)) (by assumption) rfl) rfl ?_
           clear hE a; intro a hE
           refine qvG hE (by first | exact .t rfl | exact .f rfl | exact .gt rfl | exact .gf rfl) (fun hg w hw => by (try simp only [↓gval_on hg, ↓gval_and hg] at hE); (have hg2 := hg; (try simp only [Bool.and_eq_true, Bool.or_eq_true, Bool.not_eq_true', decide_eq_true_eq, decide_eq_false_iff_not] at hg2)); first | exact r_fieldAddr ⟨hE, hw⟩ 5 rfl K.u_api_Elem rfl K.sz_int rfl rfl | exact op_fieldC ⟨hE, hw⟩ 5 rfl K.u_api_Elem rfl K.sz_int rfl rfl (by assumption) rfl) rfl ?_
           clear hE a; intro a hE
           refine qvG hE (by first | exact .t rfl | exact .f rfl | exact .gt rfl | exact .gf rfl) (fun hg w hw => by (try simp only [↓gval_on hg, ↓gval_and hg] at hE); (have hg2 := hg; (try simp only [Bool.and_eq_true, Bool.or_eq_true, Bool.not_eq_true', decide_eq_true_eq, decide_eq_false_iff_not] at hg2)); first | exact r_ldN ⟨hE, hw⟩ rfl K.u_int rfl 0 rfl rfl | exact r_ldN ⟨hE, hw⟩ rfl K.u_int rfl 1 rfl rfl | exact r_ldN ⟨hE, hw⟩ rfl K.u_int rfl 2 rfl rfl | exact r_ldN ⟨hE, hw⟩ rfl K.u_int rfl 3 rfl rfl | exact r_ldN ⟨hE, hw⟩ rfl K.u_int rfl 4 rfl rfl | exact r_ldN ⟨hE, hw⟩ rfl K.u_int rfl 5 rfl rfl | exact r_ldN ⟨hE, hw⟩ rfl K.u_int rfl 6 rfl rfl | exact r_ldC (o := 5) ⟨hE, hw⟩ rfl K.u_int rfl 0 rfl | exact r_ldC (o := 5) ⟨hE, hw⟩ rfl K.u_int rfl 1 rfl | exact r_ldC (o := 5) ⟨hE, hw⟩ rfl K.u_int rfl 2 rfl | exact r_ldC (o := 5) ⟨hE, hw⟩ rfl K.u_int rfl 3 rfl | exact r_ldC (o := 5) ⟨hE, hw⟩ rfl K.u_int rfl 4 rfl | exact r_ldC (o := 5) ⟨hE, hw⟩ rfl K.u_int rfl 5 rfl | exact r_ldC (o := 5) ⟨hE, hw⟩ rfl K.u_int rfl 6 rfl | exact r_load ⟨hE, hw⟩ rfl K.u_int rfl 0 rfl rfl | exact r_load ⟨hE, hw⟩ rfl K.u_int rfl 1 rfl rfl | exact r_load ⟨hE, hw⟩ rfl K.u_int rfl 2 rfl rfl | exact r_load ⟨hE, hw⟩ rfl K.u_int rfl 3 rfl rfl | exact r_load ⟨hE, hw⟩ rfl K.u_int rfl 4 rfl rfl | exact r_load ⟨hE, hw⟩ rfl K.u_int rfl 5 rfl rfl | exact r_load1 ⟨hE, hw⟩ rfl K.u_int rfl (by assumption)) rfl ?_
           clear hE a; intro a hE
           refine qvG hE (by first | exact .t rfl | exact .f rfl | exact .gt rfl | exact .gf rfl) (fun hg w hw => by (try simp only [↓gval_on hg, ↓gval_and hg] at hE); (have hg2 := hg; (try simp only [Bool.and_eq_true, Bool.or_eq_true, Bool.not_eq_true', decide_eq_true_eq, decide_eq_false_iff_not] at hg2)); first | exact r_bin ⟨hE, hw⟩ rfl rfl (B.eql_int)) rfl ?_
           clear hE a; intro a hE
           first
                      | (refine qv hE (fun w hw => r_pickA ⟨hE, hw⟩ rfl rfl rfl) rfl ?_)
                      | (refine qv hE (fun w hw => r_pickO ⟨hE, hw⟩ rfl rfl rfl) rfl ?_)
                      | (refine qv hE (fun w hw => r_pick_true ⟨hE, hw⟩ rfl rfl) rfl ?_)
                      | (refine qv hE (fun w hw => r_pick_false ⟨hE, hw⟩ rfl rfl) rfl ?_)
                      | (refine qv hE (fun w hw => r_pick ⟨hE, hw⟩ rfl rfl rfl) rfl ?_)
           clear hE a; intro a hE
           refine qv hE (fun w hw => r_move ⟨hE, hw⟩ rfl) rfl ?_
           clear hE a; intro a hE
           refine qvG hE (by first | exact .t rfl | exact .f rfl | exact .gt rfl | exact .gf rfl) (fun hg w hw => by (try simp only [↓gval_on hg, ↓gval_and hg] at hE); (have hg2 := hg; (try simp only [Bool.and_eq_true, Bool.or_eq_true, Bool.not_eq_true', decide_eq_true_eq, decide_eq_false_iff_not] at hg2)); first | exact r_move ⟨hE, hw⟩ rfl) rfl ?_
           clear hE a; intro a hE
           refine qvG hE (by first | exact .t rfl | exact .f rfl | exact .gt rfl | exact .gf rfl) (fun hg w hw => by (try simp only [↓gval_on hg, ↓gval_and hg] at hE); (have hg2 := hg; (try simp only [Bool.and_eq_true, Bool.or_eq_true, Bool.not_eq_true', decide_eq_true_eq, decide_eq_false_iff_not] at hg2)); first | exact r_move ⟨hE, hw⟩ rfl) rfl ?_
           clear hE a; intro a hE
           refine qvG hE (by first | exact .t rfl | exact .f rfl | exact .gt rfl | exact .gf rfl) (fun hg w hw => by (try simp only [↓gval_on hg, ↓gval_and hg] at hE); (have hg2 := hg; (try simp only [Bool.and_eq_true, Bool.or_eq_true, Bool.not_eq_true', decide_eq_true_eq, decide_eq_false_iff_not] at hg2)); first | exact r_elP ⟨hE, hw⟩ rfl rfl K.u_api_Chart K.sz_api_Elem (by first | exact Views.own 0 rfl | exact Views.own 1 rfl | exact Views.own 2 rfl | exact Views.own 3 rfl | exact Views.own 4 rfl | exact Views.own 5 rfl | assumption | exact Views.of_drop 1 (by assumption) | exact Views.of_drop 2 (by assumption) | exact Views.of_drop 3 (by assumption) | exact Views.of_drop 4 (by assumption) | exact Views.of_drop 5 (by assumption) | exact Views.of_drop 6 (by assumption) | exact Views.of_drop 7 (by assumption) | exact Views.of_drop 8 (by assumption) | exact Views.of_drop 9 (by assumption) | exact Views.of_drop 10 (by assumption) | exact Views.of_drop 11 (by assumption) | exact Views.of_drop 12 (by assumption)) (by first | omega | (simp; done)) (by first | omega | (simp only [List.length_cons, List.length_nil]; omega) | (simp; done) | (simp; omega))) rfl ?_
           clear hE a; intro a hE
           refine qvG hE (by first | exact .t rfl | exact .f rfl | exact .gt rfl | exact .gf rfl) (fun hg w hw => by (try simp only [↓gval_on hg, ↓gval_and hg] at hE); (have hg2 := hg; (try simp only [Bool.and_eq_true, Bool.or_eq_true, Bool.not_eq_true', decide_eq_true_eq, decide_eq_false_iff_not] at hg2)); first | exact r_elF ⟨hE, hw⟩ 3 rfl K.u_api_Elem rfl K.sz_int rfl rfl (by first | exact Views.own 0 rfl | exact Views.own 1 rfl | exact Views.own 2 rfl | exact Views.own 3 rfl | exact Views.own 4 rfl | exact Views.own 5 rfl | assumption | exact Views.of_drop 1 (by assumption) | exact Views.of_drop 2 (by assumption) | exact Views.of_drop 3 (by assumption) | exact Views.of_drop 4 (by assumption) | exact Views.of_drop 5 (by assumption) | exact Views.of_drop 6 (by assumption) | exact Views.of_drop 7 (by assumption) | exact Views.of_drop 8 (by assumption) | exact Views.of_drop 9 (by assumption) | exact Views.of_drop 10 (by assumption) | exact Views.of_drop 11 (by assumption) | exact Views.of_drop 12 (by assumption)) (by first | omega | (simp only [List.length_cons, List.length_nil]; omega) | (simp; done) | (simp; omega))) rfl ?_
           clear hE a; intro a hE
           refine qvG hE (by first | exact .t rfl | exact .f rfl | exact .gt rfl | exact .gf rfl) (fun hg w hw => by (try simp only [↓gval_on hg, ↓gval_and hg] at hE); (have hg2 := hg; (try simp only [Bool.and_eq_true, Bool.or_eq_true, Bool.not_eq_true', decide_eq_true_eq, decide_eq_false_iff_not] at hg2)); first | exact r_elMf ⟨hE, hw⟩ rfl K.u_int rfl (by first | exact Views.own 0 rfl | exact Views.own 1 rfl | exact Views.own 2 rfl | exact Views.own 3 rfl | exact Views.own 4 rfl | exact Views.own 5 rfl | assumption | exact Views.of_drop 1 (by assumption) | exact Views.of_drop 2 (by assumption) | exact Views.of_drop 3 (by assumption) | exact Views.of_drop 4 (by assumption) | exact Views.of_drop 5 (by assumption) | exact Views.of_drop 6 (by assumption) | exact Views.of_drop 7 (by assumption) | exact Views.of_drop 8 (by assumption) | exact Views.of_drop 9 (by assumption) | exact Views.of_drop 10 (by assumption) | exact Views.of_drop 11 (by assumption) | exact Views.of_drop 12 (by assumption)) (by assumption) rfl) rfl ?_
           clear hE a; intro a hE
           refine qvG hE (by first | exact .t rfl | exact .f rfl | exact .gt rfl | exact .gf rfl) (fun hg w hw => by (try simp only [↓gval_on hg, ↓gval_and hg] at hE); (have hg2 := hg; (try simp only [Bool.and_eq_true, Bool.or_eq_true, Bool.not_eq_true', decide_eq_true_eq, decide_eq_false_iff_not] at hg2)); first | exact r_fieldAddr ⟨hE, hw⟩ 3 rfl K.u_api_Elem rfl K.sz_int rfl rfl | exact op_fieldC ⟨hE, hw⟩ 3 rfl K.u_api_Elem rfl K.sz_int rfl rfl (by assumption) rfl) rfl ?_
           clear hE a; intro a hE
           refine qvG hE (by first | exact .t rfl | exact .f rfl | exact .gt rfl | exact .gf rfl) (fun hg w hw => by (try simp only [↓gval_on hg, ↓gval_and hg] at hE); (have hg2 := hg; (try simp only [Bool.and_eq_true, Bool.or_eq_true, Bool.not_eq_true', decide_eq_true_eq, decide_eq_false_iff_not] at hg2)); first | exact r_ldN ⟨hE, hw⟩ rfl K.u_int rfl 0 rfl rfl | exact r_ldN ⟨hE, hw⟩ rfl K.u_int rfl 1 rfl rfl | exact r_ldN ⟨hE, hw⟩ rfl K.u_int rfl 2 rfl rfl | exact r_ldN ⟨hE, hw⟩ rfl K.u_int rfl 3 rfl rfl | exact r_ldN ⟨hE, hw⟩ rfl K.u_int rfl 4 rfl rfl | exact r_ldN ⟨hE, hw⟩ rfl K.u_int rfl 5 rfl rfl | exact r_ldN ⟨hE, hw⟩ rfl K.u_int rfl 6 rfl rfl | exact r_ldC (o := 3) ⟨hE, hw⟩ rfl K.u_int rfl 0 rfl | exact r_ldC (o := 3) ⟨hE, hw⟩ rfl K.u_int rfl 1 rfl | exact r_ldC (o := 3) ⟨hE, hw⟩ rfl K.u_int rfl 2 rfl | exact r_ldC (o := 3) ⟨hE, hw⟩ rfl K.u_int rfl 3 rfl | exact r_ldC (o := 3) ⟨hE, hw⟩ rfl K.u_int rfl 4 rfl | exact r_ldC (o := 3) ⟨hE, hw⟩ rfl K.u_int rfl 5 rfl | exact r_ldC (o := 3) ⟨hE, hw⟩ rfl K.u_int rfl 6 rfl | exact r_load ⟨hE, hw⟩ rfl K.u_int rfl 0 rfl rfl | exact r_load ⟨hE, hw⟩ rfl K.u_int rfl 1 rfl rfl | exact r_load ⟨hE, hw⟩ rfl K.u_int rfl 2 rfl rfl | exact r_load ⟨hE, hw⟩ rfl K.u_int rfl 3 rfl rfl | exact r_load ⟨hE, hw⟩ rfl K.u_int rfl 4 rfl rfl | exact r_load ⟨hE, hw⟩ rfl K.u_int rfl 5 rfl rfl | exact r_load1 ⟨hE, hw⟩ rfl K.u_int rfl (by assumption)) rfl ?_
           clear hE a; intro a hE
           refine qvG hE (by first | exact .t rfl | exact .f rfl | exact .gt rfl | exact .gf rfl) (fun hg w hw => by (try simp only [↓gval_on hg, ↓gval_and hg] at hE); (have hg2 := hg; (try simp only [Bool.and_eq_true, Bool.or_eq_true, Bool.not_eq_true', decide_eq_true_eq, decide_eq_false_iff_not] at hg2)); first | exact r_bin ⟨hE, hw⟩ rfl rfl (B.eql_int)) rfl ?_
           clear hE a; intro a hE
           first
                      | (refine qv hE (fun w hw => r_pickA ⟨hE, hw⟩ rfl rfl rfl) rfl ?_)
                      | (refine qv hE (fun w hw => r_pickO ⟨hE, hw⟩ rfl rfl rfl) rfl ?_)
                      | (refine qv hE (fun w hw => r_pick_true ⟨hE, hw⟩ rfl rfl) rfl ?_)
                      | (refine qv hE (fun w hw => r_pick_false ⟨hE, hw⟩ rfl rfl) rfl ?_)
                      | (refine qv hE (fun w hw => r_pick ⟨hE, hw⟩ rfl rfl rfl) rfl ?_)
           clear hE a; intro a hE
           refine qnil hE ?_
           clear hE a; intro a w h
           refine c_then ?_
           refine c_cond h rfl (fun ht14 => ?_) (fun ht14 => ?_)
           ·
            replace ht14 : hit7 e x = true := ht14
            as_aux_lemma =>
             refine c_seq (c_region ?_)
             refine wv h (r_assign h rfl) rfl ?_
             clear h a w; intro a w h
             refine wnil (c_then ?_)
             refine c_ret ?_
             exact ret1 h rfl rfl ⟨(), by rw [brkE, brk7, ← hx2, ht14]; rfl, h.2.drop 1, trivial⟩
           ·
            replace ht14 : hit7 e x = false := ht14
            refine c_skip ?_
            refine b_normal ?_
            refine c_then ?_
            refine c_region ?_
            refine wv h (r_move h rfl) rfl ?_
            clear h a w; intro a w h
            refine wv h (r_bin h rfl rfl (B.add_i64 (by omega) (by omega))) rfl ?_
            clear h a w; intro a w h
            refine wv h (r_assign h rfl) rfl ?_
            clear h a w; intro a w h
            refine wnil ?_
            rw [ht14, Bool.false_or] at hx2
            exact ⟨i + 1, h.keep [0, 4, 14], ⟨by omega, hx2⟩, by show l.length - (i + 1) < l.length - i; omega⟩
          ·
           obtain rfl : i = l.length := by omega
           rw [List.drop_length, List.any_nil] at hx2
           refine c_exit ?_
           refine e_then ?_
           refine e_then ?_
           refine e_here ?_
           refine c_then ?_
           refine c_seq (c_region ?_)
           refine wv h (r_assign h rfl) rfl ?_
           clear h a w; intro a w h
           refine wnil (c_then ?_)
           refine c_ret ?_
           exact ret1 h rfl rfl ⟨(), by rw [brkE, brk7, ← hx2], h.2.drop 1, trivial⟩
       ·
        obtain rfl : r = 8 := by omega
        refine c_skip ?_
        refine b_normal ?_
        refine c_then ?_
        refine c_seq (c_region ?_)
        refine wv h (r_assign h rfl) rfl ?_
        clear h a w; intro a w h
        refine wnil (c_then ?_)
        refine c_seq (c_region ?_)
        refine wv h (r_assign h rfl) rfl ?_
        clear h a w; intro a w h
        refine wnil (c_then ?_)
        refine c_seq ?_
        refine c_seq (c_region ?_)
        refine wv h (r_assign h rfl) rfl ?_
        clear h a w; intro a w h
        refine wnil (c_then ?_)
        refine c_block ?_
        refine c_loopX h (X := Nat × Bool × Bool) (fun x => [(0, v), (4, .pointer (some ⟨b4, 0, none⟩)), (15, .bool x.2.1), (16, .bool x.2.2), (17, .int .i64 (x.1 : Int))]) (fun _ => Blk b4 (.cells ⟨cellsE e⟩ t_api_Elem) :: F)
          (fun x => x.1 ≤ l.length ∧ (x.2.1 || (l.drop x.1).any (fun x => decide (x.parent = e.id) && decide (x.kind = 2))) = l.any (fun x => decide (x.parent = e.id) && decide (x.kind = 2)) ∧ (x.2.2 || (l.drop x.1).any (fun x => decide (x.parent = e.id) && decide (x.kind ≠ 2))) = l.any (fun x => decide (x.parent = e.id) && decide (x.kind ≠ 2))) (fun x => l.length - x.1) (0, false, false) (h.keep [0, 4, 15, 16, 17]) ⟨Nat.zero_le _, rfl, rfl⟩ ?_
        clear h a w; intro x a w hx h
        obtain ⟨i, rg, ot⟩ := x
        obtain ⟨hx1, hx2, hx3⟩ := hx
        dsimp only at hx1 hx2 hx3 h
        as_aux_lemma =>
         refine c_seq ?_
         refine c_seq (c_region ?_)
         refine wv h (r_move h rfl) rfl ?_
         clear h a w; intro a w h
         refine wv h (r_move h rfl) rfl ?_
         clear h a w; intro a w h
         refine wv h (r_lenV h rfl K.u_api_Chart (by first | exact Views.own 0 rfl | exact Views.own 1 rfl | exact Views.own 2 rfl | exact Views.own 3 rfl | exact Views.own 4 rfl | exact Views.own 5 rfl | assumption | exact Views.of_drop 1 (by assumption) | exact Views.of_drop 2 (by assumption) | exact Views.of_drop 3 (by assumption) | exact Views.of_drop 4 (by assumption) | exact Views.of_drop 5 (by assumption) | exact Views.of_drop 6 (by assumption) | exact Views.of_drop 7 (by assumption) | exact Views.of_drop 8 (by assumption) | exact Views.of_drop 9 (by assumption) | exact Views.of_drop 10 (by assumption) | exact Views.of_drop 11 (by assumption) | exact Views.of_drop 12 (by assumption))) rfl ?_
         clear h a w; intro a w h
         refine wv h (r_bin h rfl rfl (B.lss_int)) rfl ?_
         clear h a w; intro a w h
         refine wnil (c_then ?_)
         first
          | refine c_condD h rfl (fun ht15 => ?_) (fun ht15 => ?_)
          | refine c_condP h rfl (by first | (simp only [Bool.and_eq_true, Bool.or_eq_true, Bool.not_eq_true', decide_eq_true_eq, decide_eq_false_iff_not, ne_eq, Bool.not_eq_eq_eq_not, Bool.not_true, beq_iff_eq, bne_iff_ne]; exact Iff.rfl) | exact Iff.rfl) (fun ht15 => ?_) (fun ht15 => ?_)
         ·
          obtain ⟨x, hex⟩ := get_some (l := l) (i := i) (by omega)
          rw [any_drop hex] at hx2 hx3
          refine c_skip ?_
          refine c_then ?_
          refine c_seq ?_
          refine c_block ?_
          refine c_seq (c_draw K.mixed (by kernel_rfl) h ?_)
          clear h a w; intro a hE
          refine qv hE (fun w hw => r_move ⟨hE, hw⟩ rfl) rfl ?_
          clear hE a; intro a hE
          refine qv hE (fun w hw => r_move ⟨hE, hw⟩ rfl) rfl ?_
          clear hE a; intro a hE
          refine qv hE (fun w hw => r_elP ⟨hE, hw⟩ rfl rfl K.u_api_Chart K.sz_api_Elem (by first | exact Views.own 0 rfl | exact Views.own 1 rfl | exact Views.own 2 rfl | exact Views.own 3 rfl | exact Views.own 4 rfl | exact Views.own 5 rfl | assumption | exact Views.of_drop 1 (by assumption) | exact Views.of_drop 2 (by assumption) | exact Views.of_drop 3 (by assumption) | exact Views.of_drop 4 (by assumption) | exact Views.of_drop 5 (by assumption) | exact Views.of_drop 6 (by assumption) | exact Views.of_drop 7 (by assumption) | exact Views.of_drop 8 (by assumption) | exact Views.of_drop 9 (by assumption) | exact Views.of_drop 10 (by assumption) | exact Views.of_drop 11 (by assumption) | exact Views.of_drop 12 (by assumption)) (by first | omega | (simp; done)) (by first | omega | (simp only [List.length_cons, List.length_nil]; omega) | (simp; done) | (simp; omega))) rfl ?_
          clear hE a; intro a hE
          refine qv hE (fun w hw => r_elF ⟨hE, hw⟩ 2 rfl K.u_api_Elem rfl K.sz_int rfl rfl (by first | exact Views.own 0 rfl | exact Views.own 1 rfl | exact Views.own 2 rfl | exact Views.own 3 rfl | exact Views.own 4 rfl | exact Views.own 5 rfl | assumption | exact Views.of_drop 1 (by assumption) | exact Views.of_drop 2 (by assumption) | exact Views.of_drop 3 (by assumption) | exact Views.of_drop 4 (by assumption) | exact Views.of_drop 5 (by assumption) | exact Views.of_drop 6 (by assumption) | exact Views.of_drop 7 (by assumption) | exact Views.of_drop 8 (by assumption) | exact Views.of_drop 9 (by assumption) | exact Views.of_drop 10 (by assumption) | exact Views.of_drop 11 (by assumption) | exact Views.of_drop 12 (by assumption)) (by first | omega | (simp only [List.length_cons, List.length_nil]; omega) | (simp; done) | (simp; omega))) rfl ?_
          clear hE a; intro a hE
          refine qv hE (fun w hw => r_elMf ⟨hE, hw⟩ rfl K.u_int rfl (by first | exact Views.own 0 rfl | exact Views.own 1 rfl | exact Views.own 2 rfl | exact Views.own 3 rfl | exact Views.own 4 rfl | exact Views.own 5 rfl | assumption | exact Views.of_drop 1 (by assumption) | exact Views.of_drop 2 (by assumption) | exact Views.of_drop 3 (by assumption) | exact Views.of_drop 4 (by assumption) | exact Views.of_drop 5 (by assumption) | exact Views.of_drop 6 (by assumption) | exact Views.of_drop 7 (by assumption) | exact Views.of_drop 8 (by assumption) | exact Views.of_drop 9 (by assumption) | exact Views.of_drop 10 (by assumption) | exact Views.of_drop 11 (by assumption) | exact Views.of_drop 12 (by assumption)) (by assumption) rfl) rfl ?_
          clear hE a; intro a hE
          first
                    | (refine qv hE (fun w hw => r_fieldAddr0 ⟨hE, hw⟩ rfl K.u_api_Elem rfl K.sz_int rfl rfl) rfl ?_)
                    | (refine qv hE (fun w hw => op_fieldC ⟨hE, hw⟩ 0 rfl K.u_api_Elem rfl K.sz_int rfl rfl (by assumption) rfl) rfl ?_)
          clear hE a; intro a hE
          first
                    | (refine qv hE (fun w hw => r_ldN ⟨hE, hw⟩ rfl K.u_int rfl 0 rfl rfl) rfl ?_)
                    | (refine qv hE (fun w hw => r_ldN ⟨hE, hw⟩ rfl K.u_int rfl 1 rfl rfl) rfl ?_)
                    | (refine qv hE (fun w hw => r_ldN ⟨hE, hw⟩ rfl K.u_int rfl 2 rfl rfl) rfl ?_)
                    | (refine qv hE (fun w hw => r_ldN ⟨hE, hw⟩ rfl K.u_int rfl 3 rfl rfl) rfl ?_)
                    | (refine qv hE (fun w hw => r_ldN ⟨hE, hw⟩ rfl K.u_int rfl 4 rfl rfl) rfl ?_)
                    | (refine qv hE (fun w hw => r_ldN ⟨hE, hw⟩ rfl K.u_int rfl 5 rfl rfl) rfl ?_)
                    | (refine qv hE (fun w hw => r_ldN ⟨hE, hw⟩ rfl K.u_int rfl 6 rfl rfl) rfl ?_)
                    | (refine qv hE (fun w hw => r_ldC (o := 0) ⟨hE, hw⟩ rfl K.u_int rfl 0 rfl) rfl ?_)
                    | (refine qv hE (fun w hw => r_ldC (o := 0) ⟨hE, hw⟩ rfl K.u_int rfl 1 rfl) rfl ?_)
                    | (refine qv hE (fun w hw => r_ldC (o := 0) ⟨hE, hw⟩ rfl K.u_int rfl 2 rfl) rfl ?_)
                    | (refine qv hE (fun w hw => r_ldC (o := 0) ⟨hE, hw⟩ rfl K.u_int rfl 3 rfl) rfl ?_)
                    | (refine qv hE (fun w hw => r_ldC (o := 0) ⟨hE, hw⟩ rfl K.u_int rfl 4 rfl) rfl ?_)
                    | (refine qv hE (fun w hw => r_ldC (o := 0) ⟨hE, hw⟩ rfl K.u_int rfl 5 rfl) rfl ?_)
                    | (refine qv hE (fun w hw => r_ldC (o := 0) ⟨hE, hw⟩ rfl K.u_int rfl 6 rfl) rfl ?_)
                    | (refine qv hE (fun w hw => r_load ⟨hE, hw⟩ rfl K.u_int rfl 0 rfl rfl) rfl ?_)
                    | (refine qv hE (fun w hw => r_load ⟨hE, hw⟩ rfl K.u_int rfl 1 rfl rfl) rfl ?_)
                    | (refine qv hE (fun w hw => r_load ⟨hE, hw⟩ rfl K.u_int rfl 2 rfl rfl) rfl ?_)
                    | (refine qv hE (fun w hw => r_load ⟨hE, hw⟩ rfl K.u_int rfl 3 rfl rfl) rfl ?_)
                    | (refine qv hE (fun w hw => r_load ⟨hE, hw⟩ rfl K.u_int rfl 4 rfl rfl) rfl ?_)
                    | (refine qv hE (fun w hw => r_load ⟨hE, hw⟩ rfl K.u_int rfl 5 rfl rfl) rfl ?_)
                    | (refine qv hE (fun w hw => r_load1 ⟨hE, hw⟩ rfl K.u_int rfl (by assumption)) rfl ?_)
          clear hE a; intro a hE
          refine qv hE (fun w hw => r_bin ⟨hE, hw⟩ rfl rfl (B.eql_int)) rfl ?_
          clear hE a; intro a hE
          refine qnil hE ?_
          clear hE a; intro a w h
          refine c_then ?_
          first
           | refine c_condD h rfl (fun ht16 => ?_) (fun ht16 => ?_)
           | refine c_condP h rfl (by first | (simp only [Bool.and_eq_true, Bool.or_eq_true, Bool.not_eq_true', decide_eq_true_eq, decide_eq_false_iff_not, ne_eq, Bool.not_eq_eq_eq_not, Bool.not_true, beq_iff_eq, bne_iff_ne]; exact Iff.rfl) | exact Iff.rfl) (fun ht16 => ?_) (fun ht16 => ?_)
          ·
           rw [decide_eq_true ht16, Bool.true_and, ← Bool.or_assoc] at hx2 hx3
           as_aux_lemma =>
            refine c_seq (c_region ?_)
            refine wv h (r_move h rfl) rfl ?_
            clear h a w; intro a w h
            refine wv h (r_move h rfl) rfl ?_
            clear h a w; intro a w h
            refine wvG h (by first | exact .t rfl | exact .f rfl | exact .gt rfl | exact .gf rfl) (fun hg => by (try simp only [↓gval_on hg, ↓gval_and hg] at h); (have hg2 := hg; (try simp only [Bool.and_eq_true, Bool.or_eq_true, Bool.not_eq_true', decide_eq_true_eq, decide_eq_false_iff_not] at hg2)); first | exact r_move h rfl) rfl ?_
            clear h a w; intro a w h
            refine wvG h (by first | exact .t rfl | exact .f rfl | exact .gt rfl | exact .gf rfl) (fun hg => by (try simp only [↓gval_on hg, ↓gval_and hg] at h); (have hg2 := hg; (try simp only [Bool.and_eq_true, Bool.or_eq_true, Bool.not_eq_true', decide_eq_true_eq, decide_eq_false_iff_not] at hg2)); first | exact r_move h rfl) rfl ?_
            clear h a w; intro a w h
            refine wvG h (by first | exact .t rfl | exact .f rfl | exact .gt rfl | exact .gf rfl) (fun hg => by (try simp only [↓gval_on hg, ↓gval_and hg] at h); (have hg2 := hg; (try simp only [Bool.and_eq_true, Bool.or_eq_true, Bool.not_eq_true', decide_eq_true_eq, decide_eq_false_iff_not] at hg2)); first | exact r_elP h rfl rfl K.u_api_Chart K.sz_api_Elem (by first | exact Views.own 0 rfl | exact Views.own 1 rfl | exact Views.own 2 rfl | exact Views.own 3 rfl | exact Views.own 4 rfl | exact Views.own 5 rfl | assumption | exact Views.of_drop 1 (by assumption) | exact Views.of_drop 2 (by assumption) | exact Views.of_drop 3 (by assumption) | exact Views.of_drop 4 (by assumption) | exact Views.of_drop 5 (by assumption) | exact Views.of_drop 6 (by assumption) | exact Views.of_drop 7 (by assumption) | exact Views.of_drop 8 (by assumption) | exact Views.of_drop 9 (by assumption) | exact Views.of_drop 10 (by assumption) | exact Views.of_drop 11 (by assumption) | exact Views.of_drop 12 (by assumption)) (by first | omega | (simp; done)) (by first | omega | (simp only [List.length_cons, List.length_nil]; omega) | (simp; done) | (simp; omega))) rfl ?_
            clear h a w; intro a w h
            refine wvG h (by first | exact .t rfl | exact .f rfl | exact .gt rfl | exact .gf rfl) (fun hg => by (try simp only [↓gval_on hg, ↓gval_and hg] at h); (have hg2 := hg; (try simp only [Bool.and_eq_true, Bool.or_eq_true, Bool.not_eq_true', decide_eq_true_eq, decide_eq_false_iff_not] at hg2)); first | exact r_elF h 1 rfl K.u_api_Elem rfl K.sz_uint8 rfl rfl (by first | exact Views.own 0 rfl | exact Views.own 1 rfl | exact Views.own 2 rfl | exact Views.own 3 rfl | exact Views.own 4 rfl | exact Views.own 5 rfl | assumption | exact Views.of_drop 1 (by assumption) | exact Views.of_drop 2 (by assumption) | exact Views.of_drop 3 (by assumption) | exact Views.of_drop 4 (by assumption) | exact Views.of_drop 5 (by assumption) | exact Views.of_drop 6 (by assumption) | exact Views.of_drop 7 (by assumption) | exact Views.of_drop 8 (by assumption) | exact Views.of_drop 9 (by assumption) | exact Views.of_drop 10 (by assumption) | exact Views.of_drop 11 (by assumption) | exact Views.of_drop 12 (by assumption)) (by first | omega | (simp only [List.length_cons, List.length_nil]; omega) | (simp; done) | (simp; omega))) rfl ?_
            clear h a w; intro a w h
            refine wvG h (by first | exact .t rfl | exact .f rfl | exact .gt rfl | exact .gf rfl) (fun hg => by (try simp only [↓gval_on hg, ↓gval_and hg] at h); (have hg2 := hg; (try simp only [Bool.and_eq_true, Bool.or_eq_true, Bool.not_eq_true', decide_eq_true_eq, decide_eq_false_iff_not] at hg2)); first | exact r_elMf h rfl K.u_uint8 rfl (by first | exact Views.own 0 rfl | exact Views.own 1 rfl | exact Views.own 2 rfl | exact Views.own 3 rfl | exact Views.own 4 rfl | exact Views.own 5 rfl | assumption | exact Views.of_drop 1 (by assumption) | exact Views.of_drop 2 (by assumption) | exact Views.of_drop 3 (by assumption) | exact Views.of_drop 4 (by assumption) | exact Views.of_drop 5 (by assumption) | exact Views.of_drop 6 (by assumption) | exact Views.of_drop 7 (by assumption) | exact Views.of_drop 8 (by assumption) | exact Views.of_drop 9 (by assumption) | exact Views.of_drop 10 (by assumption) | exact Views.of_drop 11 (by assumption) | exact Views.of_drop 12 (by assumption)) (by assumption) rfl) rfl ?_
            clear h a w; intro a w h
            refine wvG h (by first | exact .t rfl | exact .f rfl | exact .gt rfl | exact .gf rfl) (fun hg => by (try simp only [↓gval_on hg, ↓gval_and hg] at h); (have hg2 := hg; (try simp only [Bool.and_eq_true, Bool.or_eq_true, Bool.not_eq_true', decide_eq_true_eq, decide_eq_false_iff_not] at hg2)); first | exact r_bin h rfl rfl (B.eql_u8 (y := 2))) rfl ?_
            clear h a w; intro a w h
            first
                        | (refine wv h (r_pickA h rfl rfl rfl) rfl ?_)
                        | (refine wv h (r_pickO h rfl rfl rfl) rfl ?_)
                        | (refine wv h (r_pick_true h rfl rfl) rfl ?_)
                        | (refine wv h (r_pick_false h rfl rfl) rfl ?_)
                        | (refine wv h (r_pick h rfl rfl rfl) rfl ?_)
            clear h a w; intro a w h
            refine wv h (r_assign h rfl) rfl ?_
            clear h a w; intro a w h
            refine wnil (c_then ?_)
            refine c_region ?_
            refine wv h (r_move h rfl) rfl ?_
            clear h a w; intro a w h
            refine wv h (r_move h rfl) rfl ?_
            clear h a w; intro a w h
            refine wvG h (by first | exact .t rfl | exact .f rfl | exact .gt rfl | exact .gf rfl) (fun hg => by (try simp only [↓gval_on hg, ↓gval_and hg] at h); (have hg2 := hg; (try simp only [Bool.and_eq_true, Bool.or_eq_true, Bool.not_eq_true', decide_eq_true_eq, decide_eq_false_iff_not] at hg2)); first | exact r_move h rfl) rfl ?_
            clear h a w; intro a w h
            refine wvG h (by first | exact .t rfl | exact .f rfl | exact .gt rfl | exact .gf rfl) (fun hg => by (try simp only [↓gval_on hg, ↓gval_and hg] at h); (have hg2 := hg; (try simp only [Bool.and_eq_true, Bool.or_eq_true, Bool.not_eq_true', decide_eq_true_eq, decide_eq_false_iff_not] at hg2)); first | exact r_move h rfl) rfl ?_
            clear h a w; intro a w h
            refine wvG h (by first | exact .t rfl | exact .f rfl | exact .gt rfl | exact .gf rfl) (fun hg => by (try simp only [↓gval_on hg, ↓gval_and hg] at h); (have hg2 := hg; (try simp only [Bool.and_eq_true, Bool.or_eq_true, Bool.not_eq_true', decide_eq_true_eq, decide_eq_false_iff_not] at hg2)); first | exact r_elP h rfl rfl K.u_api_Chart K.sz_api_Elem (by first | exact Views.own 0 rfl | exact Views.own 1 rfl | exact Views.own 2 rfl | exact Views.own 3 rfl | exact Views.own 4 rfl | exact Views.own 5 rfl | assumption | exact Views.of_drop 1 (by assumption) | exact Views.of_drop 2 (by assumption) | exact Views.of_drop 3 (by assumption) | exact Views.of_drop 4 (by assumption) | exact Views.of_drop 5 (by assumption) | exact Views.of_drop 6 (by assumption) | exact Views.of_drop 7 (by assumption) | exact Views.of_drop 8 (by assumption) | exact Views.of_drop 9 (by assumption) | exact Views.of_drop 10 (by assumption) | exact Views.of_drop 11 (by assumption) | exact Views.of_drop 12 (by assumption)) (by first | omega | (simp; done)) (by first | omega | (simp only [List.length_cons, List.length_nil]; omega) | (simp; done) | (simp; omega))) rfl ?_
            clear h a w; intro a w h
            refine wvG h (by first | exact .t rfl | exact .f rfl | exact .gt rfl | exact .gf rfl) (fun hg => by (try simp only [↓gval_on hg, ↓gval_and hg] at h); (have hg2 := hg; (try simp only [Bool.and_eq_true, Bool.or_eq_true, Bool.not_eq_true', decide_eq_true_eq, decide_eq_false_iff_not] at hg2)); first | exact r_elF h 1 rfl K.u_api_Elem rfl K.sz_uint8 rfl rfl (by first | exact Views.own 0 rfl | exact Views.own 1 rfl | exact Views.own 2 rfl | exact Views.own 3 rfl | exact Views.own 4 rfl | exact Views.own 5 rfl | assumption | exact Views.of_drop 1 (by assumption) | exact Views.of_drop 2 (by assumption) | exact Views.of_drop 3 (by assumption) | exact Views.of_drop 4 (by assumption) | exact Views.of_drop 5 (by assumption) | exact Views.of_drop 6 (by assumption) | exact Views.of_drop 7 (by assumption) | exact Views.of_drop 8 (by assumption) | exact Views.of_drop 9 (by assumption) | exact Views.of_drop 10 (by assumption) | exact Views.of_drop 11 (by assumption) | exact Views.of_drop 12 (by assumption)) (by first | omega | (simp only [List.length_cons, List.length_nil]; omega) | (simp; done) | (simp; omega))) rfl ?_
            clear h a w; intro a w h
            refine wvG h (by first | exact .t rfl | exact .f rfl | exact .gt rfl | exact .gf rfl) (fun hg => by (try simp only [↓gval_on hg, ↓gval_and hg] at h); (have hg2 := hg; (try simp only [Bool.and_eq_true, Bool.or_eq_true, Bool.not_eq_true', decide_eq_true_eq, decide_eq_false_iff_not] at hg2)); first | exact r_elMf h rfl K.u_uint8 rfl (by first | exact Views.own 0 rfl | exact Views.own 1 rfl | exact Views.own 2 rfl | exact Views.own 3 rfl | exact Views.own 4 rfl | exact Views.own 5 rfl | assumption | exact Views.of_drop 1 (by assumption) | exact Views.of_drop 2 (by assumption) | exact Views.of_drop 3 (by assumption) | exact Views.of_drop 4 (by assumption) | exact Views.of_drop 5 (by assumption) | exact Views.of_drop 6 (by assumption) | exact Views.of_drop 7 (by assumption) | exact Views.of_drop 8 (by assumption) | exact Views.of_drop 9 (by assumption) | exact Views.of_drop 10 (by assumption) | exact Views.of_drop 11 (by assumption) | exact Views.of_drop 12 (by assumption)) (by assumption) rfl) rfl ?_
            clear h a w; intro a w h
            refine wvG h (by first | exact .t rfl | exact .f rfl | exact .gt rfl | exact .gf rfl) (fun hg => by (try simp only [↓gval_on hg, ↓gval_and hg] at h); (have hg2 := hg; (try simp only [Bool.and_eq_true, Bool.or_eq_true, Bool.not_eq_true', decide_eq_true_eq, decide_eq_false_iff_not] at hg2)); first | exact r_bin h rfl rfl (B.neq_u8 (y := 2))) rfl ?_
            clear h a w; intro a w h
            first
                        | (refine wv h (r_pickA h rfl rfl rfl) rfl ?_)
                        | (refine wv h (r_pickO h rfl rfl rfl) rfl ?_)
                        | (refine wv h (r_pick_true h rfl rfl) rfl ?_)
                        | (refine wv h (r_pick_false h rfl rfl) rfl ?_)
                        | (refine wv h (r_pick h rfl rfl rfl) rfl ?_)
            clear h a w; intro a w h
            refine wv h (r_assign h rfl) rfl ?_
            clear h a w; intro a w h
            refine wnil ?_
            refine b_normal ?_
            refine c_then ?_
            refine c_region ?_
            refine wv h (r_move h rfl) rfl ?_
            clear h a w; intro a w h
            refine wv h (r_bin h rfl rfl (B.add_i64 (by omega) (by omega))) rfl ?_
            clear h a w; intro a w h
            refine wv h (r_assign h rfl) rfl ?_
            clear h a w; intro a w h
            refine wnil ?_
            exact ⟨(i + 1, rg || decide (x.kind = 2), ot || decide (x.kind ≠ 2)), h.keep [0, 4, 15, 16, 17], ⟨by show i + 1 ≤ l.length; omega, hx2, hx3⟩, by show l.length - (i + 1) < l.length - i; omega⟩
          ·
           rw [decide_eq_false ht16, Bool.false_and, Bool.false_or] at hx2 hx3
           refine c_skip ?_
           refine b_normal ?_
           refine c_then ?_
           refine c_region ?_
           refine wv h (r_move h rfl) rfl ?_
           clear h a w; intro a w h
           refine wv h (r_bin h rfl rfl (B.add_i64 (by omega) (by omega))) rfl ?_
           clear h a w; intro a w h
           refine wv h (r_assign h rfl) rfl ?_
           clear h a w; intro a w h
           refine wnil ?_
           exact ⟨(i + 1, rg, ot), h.keep [0, 4, 15, 16, 17], ⟨by show i + 1 ≤ l.length; omega, hx2, hx3⟩, by show l.length - (i + 1) < l.length - i; omega⟩
         ·
          obtain rfl : i = l.length := by omega
          rw [List.drop_length, List.any_nil, Bool.or_false] at hx2 hx3
          refine c_exit ?_
          refine e_then ?_
          refine e_then ?_
          refine e_here ?_
          refine c_then ?_
          refine c_seq (c_region ?_)
          refine wv h (r_move h rfl) rfl ?_
          clear h a w; intro a w h
          refine wv h (r_move h rfl) rfl ?_
          clear h a w; intro a w h
          refine wvG h (by first | exact .t rfl | exact .f rfl | exact .gt rfl | exact .gf rfl) (fun hg => by (try simp only [↓gval_on hg, ↓gval_and hg] at h); (have hg2 := hg; (try simp only [Bool.and_eq_true, Bool.or_eq_true, Bool.not_eq_true', decide_eq_true_eq, decide_eq_false_iff_not] at hg2)); first | exact r_move h rfl) rfl ?_
          clear h a w; intro a w h
          first
                    | (refine wv h (r_pickA h rfl rfl rfl) rfl ?_)
                    | (refine wv h (r_pickO h rfl rfl rfl) rfl ?_)
                    | (refine wv h (r_pick_true h rfl rfl) rfl ?_)
                    | (refine wv h (r_pick_false h rfl rfl) rfl ?_)
                    | (refine wv h (r_pick h rfl rfl rfl) rfl ?_)
          clear h a w; intro a w h
          refine wv h (r_assign h rfl) rfl ?_
          clear h a w; intro a w h
          refine wnil (c_then ?_)
          refine c_ret ?_
          exact ret1 h rfl rfl ⟨(), by rw [brkE, brk8, ← hx2, ← hx3] <;> (intro q; omega), h.2.drop 1, trivial⟩
end Go.Proofs.K
