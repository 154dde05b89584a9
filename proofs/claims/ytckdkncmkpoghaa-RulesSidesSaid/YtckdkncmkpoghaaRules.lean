/- The contracts of package chart's Find and Children, and of package rules. -/
import Derived.Test.YtckdkncmkpoghaaRef09b
set_option linter.unusedVariables false
set_option linter.unusedSimpArgs false
set_option maxRecDepth 10000
set_option maxHeartbeats 2000000
namespace Go.Proofs.K
open Go.Sl
attribute [local irreducible] Go.Sl.Own Go.Sl.Blk Go.Sl.Sep Go.Sl.Ex Go.Sl.Fact

def cmpI (x y : Int) : Int := if x < y then -1 else if y < x then 1 else 0
theorem cmp_isNaN (s w : World) (x : Int) (F : List HItem) (hs : Sat s w F) :
    Calls P n_cmp_isNaN_int #[.int .i64 x] w (Ret s (fun _ : Unit => .bool false) (fun _ => F) (fun _ => True)) := by
  refine enter K.fn_cmp_isNaN_int rfl K.nt_cmp_isNaN_int rfl hs ?_
  clear hs w; intro a w h
  refine c_seq (c_region ?_)
  refine wv h (r_assign h rfl) rfl ?_
  clear h a w; intro a w h
  refine wnil (c_then ?_)
  refine c_seq (c_region ?_)
  refine wv h (r_move h rfl) rfl ?_
  clear h a w; intro a w h
  refine wv h (r_move h rfl) rfl ?_
  clear h a w; intro a w h
  refine wv h (r_bin h rfl rfl (B.neq_int)) rfl ?_
  clear h a w; intro a w h
  refine wv h (r_assign h rfl) rfl ?_
  clear h a w; intro a w h
  refine wnil (c_then ?_)
  refine c_ret ?_
  exact ret1 h rfl rfl ⟨(), by simp, h.2, trivial⟩
theorem cmp_Compare (s w : World) (x y : Int) (F : List HItem) (hs : Sat s w F) :
    Calls P n_cmp_Compare_int #[.int .i64 x, .int .i64 y] w (Ret s (fun _ : Unit => .int .i64 (cmpI x y)) (fun _ => F) (fun _ => True)) := by
  refine enter K.fn_cmp_Compare_int rfl K.nt_cmp_Compare_int rfl hs ?_
  clear hs w; intro a w h
  refine c_seq (c_region ?_)
  refine wv h (r_assign h rfl) rfl ?_
  clear h a w; intro a w h
  refine wnil (c_then ?_)
  refine c_seq (c_region ?_)
  refine wv h (r_move h rfl) rfl ?_
  clear h a w; intro a w h
  refine wl rfl (op_call h rfl K.go_cmp_isNaN_int (cmp_isNaN s _ _ _ h.2) rfl ?_)
  clear h a w; intro x a w hx h
  (try simp only [List.set_cons_zero, List.set_cons_succ] at h)
  refine wv h (r_assign h rfl) rfl ?_
  clear h a w; intro a w h
  refine wnil (c_then ?_)
  refine c_seq (c_region ?_)
  refine wv h (r_move h rfl) rfl ?_
  clear h a w; intro a w h
  refine wl rfl (op_call h rfl K.go_cmp_isNaN_int (cmp_isNaN s _ _ _ h.2) rfl ?_)
  clear h a w; intro x a w hx h
  (try simp only [List.set_cons_zero, List.set_cons_succ] at h)
  refine wv h (r_assign h rfl) rfl ?_
  clear h a w; intro a w h
  refine wnil (c_then ?_)
  refine c_seq ?_
  refine c_seq (c_region ?_)
  refine wv h (r_move h rfl) rfl ?_
  clear h a w; intro a w h
  refine wnil (c_then ?_)
  refine c_false h rfl ?_
  refine c_skip ?_
  refine c_then ?_
  refine c_seq ?_
  refine c_seq (c_region ?_)
  refine wv h (r_move h rfl) rfl ?_
  clear h a w; intro a w h
  refine wnil (c_then ?_)
  refine c_false h rfl ?_
  refine c_skip ?_
  refine c_then ?_
  refine c_seq ?_
  refine c_seq (c_region ?_)
  refine wv h (r_move h rfl) rfl ?_
  clear h a w; intro a w h
  refine wv h (r_move h rfl) rfl ?_
  clear h a w; intro a w h
  refine wv h (r_bin h rfl rfl (B.lss_int)) rfl ?_
  clear h a w; intro a w h
  refine wnil (c_then ?_)
  first
   | refine c_condD h rfl (fun ht3 => ?_) (fun ht3 => ?_)
   | refine c_condP h rfl (by first | (simp only [Bool.and_eq_true, Bool.or_eq_true, Bool.not_eq_true', decide_eq_true_eq, decide_eq_false_iff_not, ne_eq, Bool.not_eq_eq_eq_not, Bool.not_true, beq_iff_eq, bne_iff_ne]; exact Iff.rfl) | exact Iff.rfl) (fun ht3 => ?_) (fun ht3 => ?_)
  ·
   as_aux_lemma =>
    refine c_seq (c_region ?_)
    refine wv h (r_assign h rfl) rfl ?_
    clear h a w; intro a w h
    refine wnil (c_then ?_)
    refine c_ret ?_
    exact ret1 h rfl rfl ⟨(), by rw [cmpI, if_pos ht3], h.2, trivial⟩
  ·
   refine c_skip ?_
   refine c_then ?_
   refine c_seq ?_
   refine c_seq (c_region ?_)
   refine wv h (r_move h rfl) rfl ?_
   clear h a w; intro a w h
   refine wv h (r_move h rfl) rfl ?_
   clear h a w; intro a w h
   refine wv h (r_bin h rfl rfl (B.gtr_int)) rfl ?_
   clear h a w; intro a w h
   refine wnil (c_then ?_)
   first
    | refine c_condD h rfl (fun ht4 => ?_) (fun ht4 => ?_)
    | refine c_condP h rfl (by first | (simp only [Bool.and_eq_true, Bool.or_eq_true, Bool.not_eq_true', decide_eq_true_eq, decide_eq_false_iff_not, ne_eq, Bool.not_eq_eq_eq_not, Bool.not_true, beq_iff_eq, bne_iff_ne]; exact Iff.rfl) | exact Iff.rfl) (fun ht4 => ?_) (fun ht4 => ?_)
   ·
    as_aux_lemma =>
     refine c_seq (c_region ?_)
     refine wv h (r_assign h rfl) rfl ?_
     clear h a w; intro a w h
     refine wnil (c_then ?_)
     refine c_ret ?_
     exact ret1 h rfl rfl ⟨(), by rw [cmpI, if_neg ht3, if_pos ht4], h.2, trivial⟩
   ·
    refine c_skip ?_
    refine c_then ?_
    refine c_seq (c_region ?_)
    refine wv h (r_assign h rfl) rfl ?_
    clear h a w; intro a w h
    refine wnil (c_then ?_)
    refine c_ret ?_
    exact ret1 h rfl rfl ⟨(), by rw [cmpI, if_neg ht3, if_neg ht4], h.2, trivial⟩
theorem chart_place_1 (s w : World) (e : El) (id : Int) (F : List HItem) (hs : Sat s w F) :
    Calls P n_chart_place_1 #[.agg ⟨cellsE e⟩, .int .i64 id] w (Ret s (fun _ : Unit => .int .i64 (cmpI e.id id)) (fun _ => F) (fun _ => True)) := by
  refine enter K.fn_chart_place_1 rfl K.nt_chart_place_1 rfl hs ?_
  clear hs w; intro a w h
  refine c_seq (c_region ?_)
  refine wl rfl (op_box h rfl rfl ?_)
  clear h a w; intro b2 a w h
  try simp only [Value.cells] at h
  refine wv h (r_assign h rfl) rfl ?_
  clear h a w; intro a w h
  refine wnil (c_then ?_)
  refine c_seq (c_region ?_)
  refine wv h (r_fieldAddr0 h rfl K.u_api_Elem rfl K.sz_int rfl rfl) rfl ?_
  clear h a w; intro a w h
  first
    | (refine wv h (r_ldN h rfl K.u_int rfl 0 rfl rfl) rfl ?_)
    | (refine wv h (r_ldN h rfl K.u_int rfl 1 rfl rfl) rfl ?_)
    | (refine wv h (r_ldN h rfl K.u_int rfl 2 rfl rfl) rfl ?_)
    | (refine wv h (r_ldN h rfl K.u_int rfl 3 rfl rfl) rfl ?_)
    | (refine wv h (r_ldN h rfl K.u_int rfl 4 rfl rfl) rfl ?_)
    | (refine wv h (r_ldN h rfl K.u_int rfl 5 rfl rfl) rfl ?_)
    | (refine wv h (r_ldN h rfl K.u_int rfl 6 rfl rfl) rfl ?_)
    | (refine wv h (r_ldC (o := 0) h rfl K.u_int rfl 0 rfl) rfl ?_)
    | (refine wv h (r_ldC (o := 0) h rfl K.u_int rfl 1 rfl) rfl ?_)
    | (refine wv h (r_ldC (o := 0) h rfl K.u_int rfl 2 rfl) rfl ?_)
    | (refine wv h (r_ldC (o := 0) h rfl K.u_int rfl 3 rfl) rfl ?_)
    | (refine wv h (r_ldC (o := 0) h rfl K.u_int rfl 4 rfl) rfl ?_)
    | (refine wv h (r_ldC (o := 0) h rfl K.u_int rfl 5 rfl) rfl ?_)
    | (refine wv h (r_ldC (o := 0) h rfl K.u_int rfl 6 rfl) rfl ?_)
    | (refine wv h (r_load h rfl K.u_int rfl 0 rfl rfl) rfl ?_)
    | (refine wv h (r_load h rfl K.u_int rfl 1 rfl rfl) rfl ?_)
    | (refine wv h (r_load h rfl K.u_int rfl 2 rfl rfl) rfl ?_)
    | (refine wv h (r_load h rfl K.u_int rfl 3 rfl rfl) rfl ?_)
    | (refine wv h (r_load h rfl K.u_int rfl 4 rfl rfl) rfl ?_)
    | (refine wv h (r_load h rfl K.u_int rfl 5 rfl rfl) rfl ?_)
    | (refine wv h (r_load1 h rfl K.u_int rfl (by assumption)) rfl ?_)
  clear h a w; intro a w h
  refine wv h (r_move h rfl) rfl ?_
  clear h a w; intro a w h
  refine wl rfl (op_call h rfl K.go_cmp_Compare_int (cmp_Compare s _ _ _ _ h.2) rfl ?_)
  clear h a w; intro x a w hx h
  (try simp only [List.set_cons_zero, List.set_cons_succ] at h)
  refine wv h (r_assign h rfl) rfl ?_
  clear h a w; intro a w h
  refine wnil (c_then ?_)
  refine c_ret ?_
  exact ret1 h rfl rfl ⟨(), rfl, h.2.drop 1, trivial⟩
theorem get_or (l : List El) (i : Nat) : (i < l.length ∧ ∃ e, l[i]? = some e) ∨ ¬ i < l.length := by
  by_cases h : i < l.length
  · exact .inl ⟨h, get_some h⟩
  · exact .inr h

/-- what a search tells: where, and is it there? -/
def FoundAt (l : List El) (id : Int) (x : Nat × Bool) : Prop := (x.2 = true → ∃ e, l[x.1]? = some e ∧ e.id = id) ∧ (x.2 = false → ∀ (i : Nat) (e : El), l[i]? = some e → e.id ≠ id)
theorem half_u64 {m : Nat} (h : m < 9223372036854775808) : (UInt64.ofNat ((UInt64.ofInt (m : Int)).toNat / 2 ^ Int.toNat 1)).toNat = m / 2 := by
  have h1 : (UInt64.ofInt (m : Int)).toNat = m := by simp [UInt64.ofInt, UInt64.toNat_ofNat']; omega
  rw [h1, UInt64.toNat_ofNat']
  show m / 2 % _ = _
  omega
theorem chart_search (s w : World) (v : Value) (l : List El) (id : Int) (F : List HItem) (hr : Rises l) (hl : l.length ≤ 1000) (hv : Views F 10 v l.length (l.flatMap cellsE)) (hs : Sat s w F) :
    Calls P n_slices_BinarySearchFunc_api_Chart_api_Elem_int #[v, .int .i64 id, .func (.func n_chart_place_1) #[] #[]] w (Ret s (fun x : Nat × Bool => .tuple #[.int .i64 (x.1 : Int), .bool x.2]) (fun _ => F) (fun x => FoundAt l id x)) := by
  refine enter K.fn_slices_BinarySearchFunc_api_Chart_api_Elem_int rfl K.nt_slices_BinarySearchFunc_api_Chart_api_Elem_int rfl hs ?_
  clear hs w; intro a w h
  refine c_seq (c_region ?_)
  refine wv h (r_assign h rfl) rfl ?_
  clear h a w; intro a w h
  refine wv h (r_assign h rfl) rfl ?_
  clear h a w; intro a w h
  refine wnil (c_then ?_)
  refine c_seq (c_region ?_)
  refine wv h (r_move h rfl) rfl ?_
  clear h a w; intro a w h
  refine wv h (r_lenV h rfl K.u_api_Chart (by first | exact Views.own 0 rfl | exact Views.own 1 rfl | exact Views.own 2 rfl | exact Views.own 3 rfl | exact Views.own 4 rfl | exact Views.own 5 rfl | assumption | exact Views.of_drop 1 (by assumption) | exact Views.of_drop 2 (by assumption) | exact Views.of_drop 3 (by assumption) | exact Views.of_drop 4 (by assumption) | exact Views.of_drop 5 (by assumption) | exact Views.of_drop 6 (by assumption) | exact Views.of_drop 7 (by assumption) | exact Views.of_drop 8 (by assumption) | exact Views.of_drop 9 (by assumption) | exact Views.of_drop 10 (by assumption) | exact Views.of_drop 11 (by assumption) | exact Views.of_drop 12 (by assumption))) rfl ?_
  clear h a w; intro a w h
  refine wv h (r_assign h rfl) rfl ?_
  clear h a w; intro a w h
  refine wnil (c_then ?_)
  refine c_seq (c_region ?_)
  refine wv h (r_move h rfl) rfl ?_
  clear h a w; intro a w h
  refine wv h (r_assign h rfl) rfl ?_
  clear h a w; intro a w h
  refine wv h (r_assign h rfl) rfl ?_
  clear h a w; intro a w h
  refine wnil (c_then ?_)
  refine c_seq ?_
  refine c_block ?_
  refine c_loopX h (X := Nat × Nat) (fun x => [(0, v), (1, .int .i64 id), (2, .func (.func n_chart_place_1) #[] #[]), (8, .int .i64 (l.length : Int)), (9, .int .i64 (x.1 : Int)), (10, .int .i64 (x.2 : Int))]) (fun _ => F)
    (fun x => x.1 ≤ x.2 ∧ x.2 ≤ l.length ∧ (∀ (k : Nat) (e : El), k < x.1 → l[k]? = some e → e.id < id) ∧ (∀ (k : Nat) (e : El), x.2 ≤ k → l[k]? = some e → id ≤ e.id)) (fun x => x.2 - x.1) (0, l.length) (h.keep [0, 1, 2, 8, 9, 10]) ⟨Nat.zero_le _, Nat.le_refl _, fun k e hk => absurd hk (Nat.not_lt_zero k), fun k e hk he => by have := (List.getElem?_eq_some_iff.1 he).1; exact absurd this (by simpa using hk)⟩ ?_
  clear h a w; intro x a w hx h
  obtain ⟨i, j⟩ := x
  obtain ⟨hx1, hx2, hx3, hx4⟩ := hx
  dsimp only at hx1 hx2 hx3 hx4 h
  as_aux_lemma =>
   refine c_seq ?_
   refine c_seq (c_region ?_)
   refine wv h (r_move h rfl) rfl ?_
   clear h a w; intro a w h
   refine wv h (r_move h rfl) rfl ?_
   clear h a w; intro a w h
   refine wv h (r_bin h rfl rfl (B.lss_int)) rfl ?_
   clear h a w; intro a w h
   refine wnil (c_then ?_)
   first
    | refine c_condD h rfl (fun ht1 => ?_) (fun ht1 => ?_)
    | refine c_condP h rfl (by first | (simp only [Bool.and_eq_true, Bool.or_eq_true, Bool.not_eq_true', decide_eq_true_eq, decide_eq_false_iff_not, ne_eq, Bool.not_eq_eq_eq_not, Bool.not_true, beq_iff_eq, bne_iff_ne]; exact Iff.rfl) | exact Iff.rfl) (fun ht1 => ?_) (fun ht1 => ?_)
   ·
    obtain ⟨e, he⟩ := get_some (l := l) (i := (i + j) / 2) (by omega)
    refine c_skip ?_
    refine c_then ?_
    refine c_block ?_
    refine c_seq (c_region ?_)
    refine wv h (r_move h rfl) rfl ?_
    clear h a w; intro a w h
    refine wv h (r_move h rfl) rfl ?_
    clear h a w; intro a w h
    refine wv h (r_bin h rfl rfl (B.add_i64 (by omega) (by omega))) rfl ?_
    clear h a w; intro a w h
    rw [show (i : Int) + (j : Int) = ((i + j : Nat) : Int) by omega] at h
    refine wv h (r_conv h rfl K.u_int K.u_uint (C.u64_i64) ) rfl ?_
    clear h a w; intro a w h
    refine wv h (r_bin h rfl rfl (B.shr_u64 (by decide))) rfl ?_
    clear h a w; intro a w h
    refine wv h (r_conv h rfl K.u_uint K.u_int (C.i64_u64 (by rw [half_u64 (by omega)]; omega))) rfl ?_
    clear h a w; intro a w h
    rw [half_u64 (by omega)] at h
    refine wv h (r_assign h rfl) rfl ?_
    clear h a w; intro a w h
    refine wnil (c_then ?_)
    refine c_seq (c_region ?_)
    refine wv h (r_move h rfl) rfl ?_
    clear h a w; intro a w h
    refine wv h (r_move h rfl) rfl ?_
    clear h a w; intro a w h
    refine wv h (r_move h rfl) rfl ?_
    clear h a w; intro a w h
    refine wv h (r_elP h rfl rfl K.u_api_Chart K.sz_api_Elem (by first | exact Views.own 0 rfl | exact Views.own 1 rfl | exact Views.own 2 rfl | exact Views.own 3 rfl | exact Views.own 4 rfl | exact Views.own 5 rfl | assumption | exact Views.of_drop 1 (by assumption) | exact Views.of_drop 2 (by assumption) | exact Views.of_drop 3 (by assumption) | exact Views.of_drop 4 (by assumption) | exact Views.of_drop 5 (by assumption) | exact Views.of_drop 6 (by assumption) | exact Views.of_drop 7 (by assumption) | exact Views.of_drop 8 (by assumption) | exact Views.of_drop 9 (by assumption) | exact Views.of_drop 10 (by assumption) | exact Views.of_drop 11 (by assumption) | exact Views.of_drop 12 (by assumption)) (by first | omega | (simp; done)) (by first | omega | (simp only [List.length_cons, List.length_nil]; omega) | (simp; done) | (simp; omega))) rfl ?_
    clear h a w; intro a w h
    first
        | (refine wv h (r_elM h rfl K.u_api_Elem rfl K.sz_api_Elem rfl (by first | exact Views.own 0 rfl | exact Views.own 1 rfl | exact Views.own 2 rfl | exact Views.own 3 rfl | exact Views.own 4 rfl | exact Views.own 5 rfl | assumption | exact Views.of_drop 1 (by assumption) | exact Views.of_drop 2 (by assumption) | exact Views.of_drop 3 (by assumption) | exact Views.of_drop 4 (by assumption) | exact Views.of_drop 5 (by assumption) | exact Views.of_drop 6 (by assumption) | exact Views.of_drop 7 (by assumption) | exact Views.of_drop 8 (by assumption) | exact Views.of_drop 9 (by assumption) | exact Views.of_drop 10 (by assumption) | exact Views.of_drop 11 (by assumption) | exact Views.of_drop 12 (by assumption)) (by assumption)) rfl ?_)
        | (refine wv h (r_elMd h rfl K.u_api_Elem rfl K.sz_api_Elem rfl (by first | exact Views.own 0 rfl | exact Views.own 1 rfl | exact Views.own 2 rfl | exact Views.own 3 rfl | exact Views.own 4 rfl | exact Views.own 5 rfl | assumption | exact Views.of_drop 1 (by assumption) | exact Views.of_drop 2 (by assumption) | exact Views.of_drop 3 (by assumption) | exact Views.of_drop 4 (by assumption) | exact Views.of_drop 5 (by assumption) | exact Views.of_drop 6 (by assumption) | exact Views.of_drop 7 (by assumption) | exact Views.of_drop 8 (by assumption) | exact Views.of_drop 9 (by assumption) | exact Views.of_drop 10 (by assumption) | exact Views.of_drop 11 (by assumption) | exact Views.of_drop 12 (by assumption)) (by first | omega | (simp only [List.length_cons, List.length_nil]; omega) | (simp; done) | (simp; omega))) rfl ?_)
    clear h a w; intro a w h
    refine wv h (r_move h rfl) rfl ?_
    clear h a w; intro a w h
    refine wl rfl (op_callV h rfl rfl K.go_chart_place_1 (chart_place_1 s _ e id _ h.2) rfl ?_)
    clear h a w; intro x a w hx h
    refine wv h (r_bin h rfl rfl (B.lss_int)) rfl ?_
    clear h a w; intro a w h
    refine wnil (c_then ?_)
    first
     | refine c_condD h rfl (fun ht2 => ?_) (fun ht2 => ?_)
     | refine c_condP h rfl (by first | (simp only [Bool.and_eq_true, Bool.or_eq_true, Bool.not_eq_true', decide_eq_true_eq, decide_eq_false_iff_not, ne_eq, Bool.not_eq_eq_eq_not, Bool.not_true, beq_iff_eq, bne_iff_ne]; exact Iff.rfl) | exact Iff.rfl) (fun ht2 => ?_) (fun ht2 => ?_)
    ·
     have hlt : e.id < id := by
       unfold cmpI at ht2
       split at ht2
       · assumption
       · split at ht2 <;> omega
     as_aux_lemma =>
      refine c_region ?_
      refine wv h (r_move h rfl) rfl ?_
      clear h a w; intro a w h
      refine wv h (r_bin h rfl rfl (B.add_i64 (by omega) (by omega))) rfl ?_
      clear h a w; intro a w h
      refine wv h (r_assign h rfl) rfl ?_
      clear h a w; intro a w h
      refine wnil ?_
      refine b_normal ?_
      rw [show (((i + j) / 2 : Nat) : Int) + 1 = (((i + j) / 2 + 1 : Nat) : Int) by omega] at h
      refine ⟨((i + j) / 2 + 1, j), h.keep [0, 1, 2, 8, 9, 10], ⟨by show (i + j) / 2 + 1 ≤ j; omega, hx2, fun k e' hk he' => ?_, hx4⟩, by show j - ((i + j) / 2 + 1) < j - i; omega⟩
      rcases Nat.lt_or_eq_of_le (Nat.lt_succ_iff.1 hk) with q | q
      · have := rises_lt' hr q he' he; omega
      · subst q; rw [he] at he'; cases he'; exact hlt
    ·
     have hge : id ≤ e.id := by
       unfold cmpI at ht2
       split at ht2
       · omega
       · omega
     refine c_region ?_
     refine wv h (r_move h rfl) rfl ?_
     clear h a w; intro a w h
     refine wv h (r_assign h rfl) rfl ?_
     clear h a w; intro a w h
     refine wnil ?_
     refine b_normal ?_
     refine ⟨(i, (i + j) / 2), h.keep [0, 1, 2, 8, 9, 10], ⟨by show i ≤ (i + j) / 2; omega, by show (i + j) / 2 ≤ l.length; omega, hx3, fun k e' hk he' => ?_⟩, by show (i + j) / 2 - i < j - i; omega⟩
     rcases Nat.lt_or_eq_of_le (show (i + j) / 2 ≤ k from hk) with q | q
     · have := rises_lt' hr q he he'; omega
     · subst q; rw [he] at he'; cases he'; exact hge
   ·
    obtain rfl : i = j := by omega
    refine c_exit ?_
    refine e_then ?_
    refine e_then ?_
    refine e_here ?_
    refine c_then ?_
    rcases get_or l i with ⟨hin, e, he⟩ | hin
    ·
     refine c_seq (c_region ?_)
     refine wv h (r_move h rfl) rfl ?_
     clear h a w; intro a w h
     refine wv h (r_move h rfl) rfl ?_
     clear h a w; intro a w h
     refine wv h (r_move h rfl) rfl ?_
     clear h a w; intro a w h
     refine wv h (r_bin h rfl rfl (B.lss_int)) rfl ?_
     clear h a w; intro a w h
     first
       | rw [decide_eq_true (show (i : Int) < (l.length : Int) by omega)] at h
       | rw [decide_eq_false (show ¬ (i : Int) < (l.length : Int) by omega)] at h
     refine wv h (r_move h rfl) rfl ?_
     clear h a w; intro a w h
     first | (refine wvG h (by first | exact .t rfl | exact .f rfl | exact .gt rfl | exact .gf rfl) (fun hg => by (try simp only [↓gval_on hg, ↓gval_and hg] at h); (have hg2 := hg; (try simp only [Bool.and_eq_true, Bool.or_eq_true, Bool.not_eq_true', decide_eq_true_eq, decide_eq_false_iff_not] at hg2)); first | exact r_move h rfl) rfl ?_) | (refine wvS h (by first | exact .t rfl | exact .f rfl | exact .gt rfl | exact .gf rfl) (by first | rfl | assumption | simpa | simpa [*]) rfl ?_)
     clear h a w; intro a w h
     first | (refine wvG h (by first | exact .t rfl | exact .f rfl | exact .gt rfl | exact .gf rfl) (fun hg => by (try simp only [↓gval_on hg, ↓gval_and hg] at h); (have hg2 := hg; (try simp only [Bool.and_eq_true, Bool.or_eq_true, Bool.not_eq_true', decide_eq_true_eq, decide_eq_false_iff_not] at hg2)); first | exact r_move h rfl) rfl ?_) | (refine wvS h (by first | exact .t rfl | exact .f rfl | exact .gt rfl | exact .gf rfl) (by first | rfl | assumption | simpa | simpa [*]) rfl ?_)
     clear h a w; intro a w h
     first | (refine wvG h (by first | exact .t rfl | exact .f rfl | exact .gt rfl | exact .gf rfl) (fun hg => by (try simp only [↓gval_on hg, ↓gval_and hg] at h); (have hg2 := hg; (try simp only [Bool.and_eq_true, Bool.or_eq_true, Bool.not_eq_true', decide_eq_true_eq, decide_eq_false_iff_not] at hg2)); first | exact r_move h rfl) rfl ?_) | (refine wvS h (by first | exact .t rfl | exact .f rfl | exact .gt rfl | exact .gf rfl) (by first | rfl | assumption | simpa | simpa [*]) rfl ?_)
     clear h a w; intro a w h
     first | (refine wvG h (by first | exact .t rfl | exact .f rfl | exact .gt rfl | exact .gf rfl) (fun hg => by (try simp only [↓gval_on hg, ↓gval_and hg] at h); (have hg2 := hg; (try simp only [Bool.and_eq_true, Bool.or_eq_true, Bool.not_eq_true', decide_eq_true_eq, decide_eq_false_iff_not] at hg2)); first | exact r_elP h rfl rfl K.u_api_Chart K.sz_api_Elem (by first | exact Views.own 0 rfl | exact Views.own 1 rfl | exact Views.own 2 rfl | exact Views.own 3 rfl | exact Views.own 4 rfl | exact Views.own 5 rfl | assumption | exact Views.of_drop 1 (by assumption) | exact Views.of_drop 2 (by assumption) | exact Views.of_drop 3 (by assumption) | exact Views.of_drop 4 (by assumption) | exact Views.of_drop 5 (by assumption) | exact Views.of_drop 6 (by assumption) | exact Views.of_drop 7 (by assumption) | exact Views.of_drop 8 (by assumption) | exact Views.of_drop 9 (by assumption) | exact Views.of_drop 10 (by assumption) | exact Views.of_drop 11 (by assumption) | exact Views.of_drop 12 (by assumption)) (by first | omega | (simp; done)) (by first | omega | (simp only [List.length_cons, List.length_nil]; omega) | (simp; done) | (simp; omega))) rfl ?_) | (refine wvS h (by first | exact .t rfl | exact .f rfl | exact .gt rfl | exact .gf rfl) (by first | rfl | assumption | simpa | simpa [*]) rfl ?_)
     clear h a w; intro a w h
     first | (refine wvG h (by first | exact .t rfl | exact .f rfl | exact .gt rfl | exact .gf rfl) (fun hg => by (try simp only [↓gval_on hg, ↓gval_and hg] at h); (have hg2 := hg; (try simp only [Bool.and_eq_true, Bool.or_eq_true, Bool.not_eq_true', decide_eq_true_eq, decide_eq_false_iff_not] at hg2)); first | exact r_elM h rfl K.u_api_Elem rfl K.sz_api_Elem rfl (by first | exact Views.own 0 rfl | exact Views.own 1 rfl | exact Views.own 2 rfl | exact Views.own 3 rfl | exact Views.own 4 rfl | exact Views.own 5 rfl | assumption | exact Views.of_drop 1 (by assumption) | exact Views.of_drop 2 (by assumption) | exact Views.of_drop 3 (by assumption) | exact Views.of_drop 4 (by assumption) | exact Views.of_drop 5 (by assumption) | exact Views.of_drop 6 (by assumption) | exact Views.of_drop 7 (by assumption) | exact Views.of_drop 8 (by assumption) | exact Views.of_drop 9 (by assumption) | exact Views.of_drop 10 (by assumption) | exact Views.of_drop 11 (by assumption) | exact Views.of_drop 12 (by assumption)) (by assumption) | exact r_elMd h rfl K.u_api_Elem rfl K.sz_api_Elem rfl (by first | exact Views.own 0 rfl | exact Views.own 1 rfl | exact Views.own 2 rfl | exact Views.own 3 rfl | exact Views.own 4 rfl | exact Views.own 5 rfl | assumption | exact Views.of_drop 1 (by assumption) | exact Views.of_drop 2 (by assumption) | exact Views.of_drop 3 (by assumption) | exact Views.of_drop 4 (by assumption) | exact Views.of_drop 5 (by assumption) | exact Views.of_drop 6 (by assumption) | exact Views.of_drop 7 (by assumption) | exact Views.of_drop 8 (by assumption) | exact Views.of_drop 9 (by assumption) | exact Views.of_drop 10 (by assumption) | exact Views.of_drop 11 (by assumption) | exact Views.of_drop 12 (by assumption)) (by first | omega | (simp only [List.length_cons, List.length_nil]; omega) | (simp; done) | (simp; omega))) rfl ?_) | (refine wvS h (by first | exact .t rfl | exact .f rfl | exact .gt rfl | exact .gf rfl) (by first | rfl | assumption | simpa | simpa [*]) rfl ?_)
     clear h a w; intro a w h
     first | (refine wvG h (by first | exact .t rfl | exact .f rfl | exact .gt rfl | exact .gf rfl) (fun hg => by (try simp only [↓gval_on hg, ↓gval_and hg] at h); (have hg2 := hg; (try simp only [Bool.and_eq_true, Bool.or_eq_true, Bool.not_eq_true', decide_eq_true_eq, decide_eq_false_iff_not] at hg2)); first | exact r_move h rfl) rfl ?_) | (refine wvS h (by first | exact .t rfl | exact .f rfl | exact .gt rfl | exact .gf rfl) (by first | rfl | assumption | simpa | simpa [*]) rfl ?_)
     clear h a w; intro a w h
     refine wlg h rfl rfl (op_callV h rfl rfl K.go_chart_place_1 (chart_place_1 s _ e id _ h.2) rfl ?_)
     clear h a w; intro x a w hx h
     first | (refine wvG h (by first | exact .t rfl | exact .f rfl | exact .gt rfl | exact .gf rfl) (fun hg => by (try simp only [↓gval_on hg, ↓gval_and hg] at h); (have hg2 := hg; (try simp only [Bool.and_eq_true, Bool.or_eq_true, Bool.not_eq_true', decide_eq_true_eq, decide_eq_false_iff_not] at hg2)); first | exact r_bin h rfl rfl (B.eql_int)) rfl ?_) | (refine wvS h (by first | exact .t rfl | exact .f rfl | exact .gt rfl | exact .gf rfl) (by first | rfl | assumption | simpa | simpa [*]) rfl ?_)
     clear h a w; intro a w h
     first
          | (refine wv h (r_pickA h rfl rfl rfl) rfl ?_)
          | (refine wv h (r_pickO h rfl rfl rfl) rfl ?_)
          | (refine wv h (r_pick_true h rfl rfl) rfl ?_)
          | (refine wv h (r_pick_false h rfl rfl) rfl ?_)
          | (refine wv h (r_pick h rfl rfl rfl) rfl ?_)
     clear h a w; intro a w h
     refine wv h (r_assign h rfl) rfl ?_
     clear h a w; intro a w h
     refine wv h (r_assign h rfl) rfl ?_
     clear h a w; intro a w h
     refine wnil (c_then ?_)
     refine c_ret ?_
     refine ret2 h rfl rfl rfl ⟨(i, decide (cmpI e.id id = 0)), by simp, h.2, fun q => ⟨e, he, ?_⟩, fun q k e' he' => ?_⟩
     · have q2 : cmpI e.id id = 0 := of_decide_eq_true q
       unfold cmpI at q2
       split at q2
       · omega
       · split at q2 <;> omega
     · have q2 : ¬ cmpI e.id id = 0 := of_decide_eq_false q
       have hne : e.id ≠ id := fun hq => q2 (by rw [cmpI, if_neg (by omega), if_neg (by omega)])
       have hge := hx4 i e (Nat.le_refl _) he
       rcases Nat.lt_trichotomy k i with g | g | g
       · have := hx3 k e' g he'; omega
       · subst g; rw [he] at he'; cases he'; exact hne
       · have := rises_lt' hr g he he'; omega
    ·
     refine c_seq (c_region ?_)
     refine wv h (r_move h rfl) rfl ?_
     clear h a w; intro a w h
     refine wv h (r_move h rfl) rfl ?_
     clear h a w; intro a w h
     refine wv h (r_move h rfl) rfl ?_
     clear h a w; intro a w h
     refine wv h (r_bin h rfl rfl (B.lss_int)) rfl ?_
     clear h a w; intro a w h
     first
       | rw [decide_eq_true (show (i : Int) < (l.length : Int) by omega)] at h
       | rw [decide_eq_false (show ¬ (i : Int) < (l.length : Int) by omega)] at h
     refine wv h (r_move h rfl) rfl ?_
     clear h a w; intro a w h
     first | (refine wvG h (by first | exact .t rfl | exact .f rfl | exact .gt rfl | exact .gf rfl) (fun hg => by (try simp only [↓gval_on hg, ↓gval_and hg] at h); (have hg2 := hg; (try simp only [Bool.and_eq_true, Bool.or_eq_true, Bool.not_eq_true', decide_eq_true_eq, decide_eq_false_iff_not] at hg2)); first | exact r_move h rfl) rfl ?_) | (refine wvS h (by first | exact .t rfl | exact .f rfl | exact .gt rfl | exact .gf rfl) (by first | rfl | assumption | simpa | simpa [*]) rfl ?_)
     clear h a w; intro a w h
     first | (refine wvG h (by first | exact .t rfl | exact .f rfl | exact .gt rfl | exact .gf rfl) (fun hg => by (try simp only [↓gval_on hg, ↓gval_and hg] at h); (have hg2 := hg; (try simp only [Bool.and_eq_true, Bool.or_eq_true, Bool.not_eq_true', decide_eq_true_eq, decide_eq_false_iff_not] at hg2)); first | exact r_move h rfl) rfl ?_) | (refine wvS h (by first | exact .t rfl | exact .f rfl | exact .gt rfl | exact .gf rfl) (by first | rfl | assumption | simpa | simpa [*]) rfl ?_)
     clear h a w; intro a w h
     first | (refine wvG h (by first | exact .t rfl | exact .f rfl | exact .gt rfl | exact .gf rfl) (fun hg => by (try simp only [↓gval_on hg, ↓gval_and hg] at h); (have hg2 := hg; (try simp only [Bool.and_eq_true, Bool.or_eq_true, Bool.not_eq_true', decide_eq_true_eq, decide_eq_false_iff_not] at hg2)); first | exact r_move h rfl) rfl ?_) | (refine wvS h (by first | exact .t rfl | exact .f rfl | exact .gt rfl | exact .gf rfl) (by first | rfl | assumption | simpa | simpa [*]) rfl ?_)
     clear h a w; intro a w h
     first | (refine wvG h (by first | exact .t rfl | exact .f rfl | exact .gt rfl | exact .gf rfl) (fun hg => by (try simp only [↓gval_on hg, ↓gval_and hg] at h); (have hg2 := hg; (try simp only [Bool.and_eq_true, Bool.or_eq_true, Bool.not_eq_true', decide_eq_true_eq, decide_eq_false_iff_not] at hg2)); first | exact r_elP h rfl rfl K.u_api_Chart K.sz_api_Elem (by first | exact Views.own 0 rfl | exact Views.own 1 rfl | exact Views.own 2 rfl | exact Views.own 3 rfl | exact Views.own 4 rfl | exact Views.own 5 rfl | assumption | exact Views.of_drop 1 (by assumption) | exact Views.of_drop 2 (by assumption) | exact Views.of_drop 3 (by assumption) | exact Views.of_drop 4 (by assumption) | exact Views.of_drop 5 (by assumption) | exact Views.of_drop 6 (by assumption) | exact Views.of_drop 7 (by assumption) | exact Views.of_drop 8 (by assumption) | exact Views.of_drop 9 (by assumption) | exact Views.of_drop 10 (by assumption) | exact Views.of_drop 11 (by assumption) | exact Views.of_drop 12 (by assumption)) (by first | omega | (simp; done)) (by first | omega | (simp only [List.length_cons, List.length_nil]; omega) | (simp; done) | (simp; omega))) rfl ?_) | (refine wvS h (by first | exact .t rfl | exact .f rfl | exact .gt rfl | exact .gf rfl) (by first | rfl | assumption | simpa | simpa [*]) rfl ?_)
     clear h a w; intro a w h
     first | (refine wvG h (by first | exact .t rfl | exact .f rfl | exact .gt rfl | exact .gf rfl) (fun hg => by (try simp only [↓gval_on hg, ↓gval_and hg] at h); (have hg2 := hg; (try simp only [Bool.and_eq_true, Bool.or_eq_true, Bool.not_eq_true', decide_eq_true_eq, decide_eq_false_iff_not] at hg2)); first | exact r_elM h rfl K.u_api_Elem rfl K.sz_api_Elem rfl (by first | exact Views.own 0 rfl | exact Views.own 1 rfl | exact Views.own 2 rfl | exact Views.own 3 rfl | exact Views.own 4 rfl | exact Views.own 5 rfl | assumption | exact Views.of_drop 1 (by assumption) | exact Views.of_drop 2 (by assumption) | exact Views.of_drop 3 (by assumption) | exact Views.of_drop 4 (by assumption) | exact Views.of_drop 5 (by assumption) | exact Views.of_drop 6 (by assumption) | exact Views.of_drop 7 (by assumption) | exact Views.of_drop 8 (by assumption) | exact Views.of_drop 9 (by assumption) | exact Views.of_drop 10 (by assumption) | exact Views.of_drop 11 (by assumption) | exact Views.of_drop 12 (by assumption)) (by assumption) | exact r_elMd h rfl K.u_api_Elem rfl K.sz_api_Elem rfl (by first | exact Views.own 0 rfl | exact Views.own 1 rfl | exact Views.own 2 rfl | exact Views.own 3 rfl | exact Views.own 4 rfl | exact Views.own 5 rfl | assumption | exact Views.of_drop 1 (by assumption) | exact Views.of_drop 2 (by assumption) | exact Views.of_drop 3 (by assumption) | exact Views.of_drop 4 (by assumption) | exact Views.of_drop 5 (by assumption) | exact Views.of_drop 6 (by assumption) | exact Views.of_drop 7 (by assumption) | exact Views.of_drop 8 (by assumption) | exact Views.of_drop 9 (by assumption) | exact Views.of_drop 10 (by assumption) | exact Views.of_drop 11 (by assumption) | exact Views.of_drop 12 (by assumption)) (by first | omega | (simp only [List.length_cons, List.length_nil]; omega) | (simp; done) | (simp; omega))) rfl ?_) | (refine wvS h (by first | exact .t rfl | exact .f rfl | exact .gt rfl | exact .gf rfl) (by first | rfl | assumption | simpa | simpa [*]) rfl ?_)
     clear h a w; intro a w h
     first | (refine wvG h (by first | exact .t rfl | exact .f rfl | exact .gt rfl | exact .gf rfl) (fun hg => by (try simp only [↓gval_on hg, ↓gval_and hg] at h); (have hg2 := hg; (try simp only [Bool.and_eq_true, Bool.or_eq_true, Bool.not_eq_true', decide_eq_true_eq, decide_eq_false_iff_not] at hg2)); first | exact r_move h rfl) rfl ?_) | (refine wvS h (by first | exact .t rfl | exact .f rfl | exact .gt rfl | exact .gf rfl) (by first | rfl | assumption | simpa | simpa [*]) rfl ?_)
     clear h a w; intro a w h
     refine wvS h (.t rfl) rfl rfl ?_
     clear h a w; intro a w h
     first | (refine wvG h (by first | exact .t rfl | exact .f rfl | exact .gt rfl | exact .gf rfl) (fun hg => by (try simp only [↓gval_on hg, ↓gval_and hg] at h); (have hg2 := hg; (try simp only [Bool.and_eq_true, Bool.or_eq_true, Bool.not_eq_true', decide_eq_true_eq, decide_eq_false_iff_not] at hg2)); first | exact r_bin h rfl rfl (B.eql_int)) rfl ?_) | (refine wvS h (by first | exact .t rfl | exact .f rfl | exact .gt rfl | exact .gf rfl) (by first | rfl | assumption | simpa | simpa [*]) rfl ?_)
     clear h a w; intro a w h
     first
          | (refine wv h (r_pickA h rfl rfl rfl) rfl ?_)
          | (refine wv h (r_pickO h rfl rfl rfl) rfl ?_)
          | (refine wv h (r_pick_true h rfl rfl) rfl ?_)
          | (refine wv h (r_pick_false h rfl rfl) rfl ?_)
          | (refine wv h (r_pick h rfl rfl rfl) rfl ?_)
     clear h a w; intro a w h
     refine wv h (r_assign h rfl) rfl ?_
     clear h a w; intro a w h
     refine wv h (r_assign h rfl) rfl ?_
     clear h a w; intro a w h
     refine wnil (c_then ?_)
     refine c_ret ?_
     refine ret2 h rfl rfl rfl ⟨(i, false), by simp, h.2, ?_⟩
     refine ⟨fun q => absurd (show false = true from q) (by decide), fun q k e' he' => ?_⟩
     have hk := (List.getElem?_eq_some_iff.1 he').1
     have := hx3 k e' (by omega) he'
     omega

def zeroE : El := ⟨0, 0, 0, 0, [], 0, 0, [], [], []⟩
def findD (l : List El) (id : Int) : El := (findE l id).getD zeroE
theorem chart_place (s w : World) (v : Value) (l : List El) (id : Int) (F : List HItem) (hr : Rises l) (hl : l.length ≤ 1000) (hv : Views F 10 v l.length (l.flatMap cellsE)) (hs : Sat s w F) :
    Calls P n_chart_place #[v, .int .i64 id] w (Ret s (fun x : Nat × Bool => .tuple #[.int .i64 (x.1 : Int), .bool x.2]) (fun _ => F) (fun x => FoundAt l id x)) := by
  refine enter K.fn_chart_place rfl K.nt_chart_place rfl hs ?_
  clear hs w; intro a w h
  refine c_seq (c_region ?_)
  refine wv h (r_assign h rfl) rfl ?_
  clear h a w; intro a w h
  refine wv h (r_assign h rfl) rfl ?_
  clear h a w; intro a w h
  refine wnil (c_then ?_)
  refine c_seq (c_region ?_)
  refine wv h (r_move h rfl) rfl ?_
  clear h a w; intro a w h
  refine wv h (r_move h rfl) rfl ?_
  clear h a w; intro a w h
  refine wl rfl (op_call h rfl K.go_slices_BinarySearchFunc_api_Chart_api_Elem_int (chart_search s _ v l id _ hr hl hv h.2) rfl ?_)
  clear h a w; intro y a w hy h
  (try simp only [List.set_cons_zero, List.set_cons_succ] at h)
  refine wv h (r_extractN h rfl rfl) rfl ?_
  clear h a w; intro a w h
  refine wv h (r_extractN h rfl rfl) rfl ?_
  clear h a w; intro a w h
  refine wv h (r_assign h rfl) rfl ?_
  clear h a w; intro a w h
  refine wv h (r_assign h rfl) rfl ?_
  clear h a w; intro a w h
  refine wnil (c_then ?_)
  refine c_ret ?_
  exact ret2 h rfl rfl rfl ⟨y, rfl, h.2, hy⟩
theorem chart_Find (s w : World) (v : Value) (l : List El) (id : Int) (F : List HItem) (hr : Rises l) (hl : l.length ≤ 1000) (hv : Views F 10 v l.length (l.flatMap cellsE)) (hs : Sat s w F) :
    Calls P n_chart_Find #[v, .int .i64 id] w (Ret s (fun _ : Unit => .tuple #[.agg ⟨cellsE (findD l id)⟩, .bool (findE l id).isSome]) (fun _ => F) (fun _ => True)) := by
  refine enter K.fn_chart_Find rfl K.nt_chart_Find rfl hs ?_
  clear hs w; intro a w h
  refine c_seq (c_region ?_)
  refine wl rfl (op_alloc h K.z_api_Elem rfl ?_)
  clear h a w; intro b4 a w h
  refine wv h (r_assign h rfl) rfl ?_
  clear h a w; intro a w h
  refine wnil (c_then ?_)
  refine c_seq (c_region ?_)
  refine wv h (r_move h rfl) rfl ?_
  clear h a w; intro a w h
  refine wv h (r_move h rfl) rfl ?_
  clear h a w; intro a w h
  refine wl rfl (op_call h rfl K.go_chart_place (chart_place s _ v l id _ hr hl (hv.cons _) h.2) rfl ?_)
  clear h a w; intro y a w hy h
  (try simp only [List.set_cons_zero, List.set_cons_succ] at h)
  obtain ⟨i, ok⟩ := y
  obtain ⟨hy1, hy2⟩ := hy
  dsimp only at hy1 hy2 h
  refine wv h (r_move h rfl) rfl ?_
  clear h a w; intro a w h
  refine wv h (r_extractN h rfl rfl) rfl ?_
  clear h a w; intro a w h
  refine wv h (r_extractN h rfl rfl) rfl ?_
  clear h a w; intro a w h
  refine wv h (r_assign h rfl) rfl ?_
  clear h a w; intro a w h
  refine wv h (r_assign h rfl) rfl ?_
  clear h a w; intro a w h
  refine wnil (c_then ?_)
  refine c_seq ?_
  refine c_seq (c_region ?_)
  refine wv h (r_move h rfl) rfl ?_
  clear h a w; intro a w h
  refine wv h (r_not h rfl) rfl ?_
  clear h a w; intro a w h
  refine wnil (c_then ?_)
  first
   | refine c_condD h rfl (fun ht1 => ?_) (fun ht1 => ?_)
   | refine c_condP h rfl (by first | (simp only [Bool.and_eq_true, Bool.or_eq_true, Bool.not_eq_true', decide_eq_true_eq, decide_eq_false_iff_not, ne_eq, Bool.not_eq_eq_eq_not, Bool.not_true, beq_iff_eq, bne_iff_ne]; exact Iff.rfl) | exact Iff.rfl) (fun ht1 => ?_) (fun ht1 => ?_)
  ·
   have hf := findE_none (hy2 (by simpa using ht1))
   as_aux_lemma =>
    refine c_seq (c_region ?_)
    refine wv h (r_build (cells := ⟨cellsE zeroE⟩) h K.u_api_Elem K.z_api_Elem K.pl_api_Elem rfl (by kernel_rfl)) rfl ?_
    clear h a w; intro a w h
    first
        | (refine wl rfl (op_stA h rfl rfl K.sz_api_Elem (by first | exact Row.len _ | rfl | assumption | (simp; done) | (simp; omega) | omega) (by first | exact Row.one _ | exact bs_one _ | assumption | (simp; done) | (simp; (repeat' apply And.intro) <;> first | rfl | assumption)) 0 rfl (by first | rfl | assumption | (simp; done) | (simp; omega) | omega) ?_))
        | (refine wl rfl (op_stA h rfl rfl K.sz_api_Elem (by first | exact Row.len _ | rfl | assumption | (simp; done) | (simp; omega) | omega) (by first | exact Row.one _ | exact bs_one _ | assumption | (simp; done) | (simp; (repeat' apply And.intro) <;> first | rfl | assumption)) 1 rfl (by first | rfl | assumption | (simp; done) | (simp; omega) | omega) ?_))
        | (refine wl rfl (op_stA h rfl rfl K.sz_api_Elem (by first | exact Row.len _ | rfl | assumption | (simp; done) | (simp; omega) | omega) (by first | exact Row.one _ | exact bs_one _ | assumption | (simp; done) | (simp; (repeat' apply And.intro) <;> first | rfl | assumption)) 2 rfl (by first | rfl | assumption | (simp; done) | (simp; omega) | omega) ?_))
        | (refine wl rfl (op_stA h rfl rfl K.sz_api_Elem (by first | exact Row.len _ | rfl | assumption | (simp; done) | (simp; omega) | omega) (by first | exact Row.one _ | exact bs_one _ | assumption | (simp; done) | (simp; (repeat' apply And.intro) <;> first | rfl | assumption)) 3 rfl (by first | rfl | assumption | (simp; done) | (simp; omega) | omega) ?_))
        | (refine wl rfl (op_stA h rfl rfl K.sz_api_Elem (by first | exact Row.len _ | rfl | assumption | (simp; done) | (simp; omega) | omega) (by first | exact Row.one _ | exact bs_one _ | assumption | (simp; done) | (simp; (repeat' apply And.intro) <;> first | rfl | assumption)) 4 rfl (by first | rfl | assumption | (simp; done) | (simp; omega) | omega) ?_))
        | (refine wl rfl (op_stA h rfl rfl K.sz_api_Elem (by first | exact Row.len _ | rfl | assumption | (simp; done) | (simp; omega) | omega) (by first | exact Row.one _ | exact bs_one _ | assumption | (simp; done) | (simp; (repeat' apply And.intro) <;> first | rfl | assumption)) 5 rfl (by first | rfl | assumption | (simp; done) | (simp; omega) | omega) ?_))
    clear h a w; intro a w h
    (try simp only [List.set_cons_zero, List.set_cons_succ] at h)
    refine wv h (r_assign h rfl) rfl ?_
    clear h a w; intro a w h
    refine wnil (c_then ?_)
    refine c_ret ?_
    exact retct h rfl rfl rfl K.u_api_Elem rfl K.sz_api_Elem 0 rfl rfl ⟨(), by rw [findD, hf]; rfl, h.2.drop 1, trivial⟩
  ·
   obtain ⟨e, he1, he2⟩ := hy1 (by simpa using ht1)
   have hil : i < l.length := (List.getElem?_eq_some_iff.1 he1).1
   have hf := findE_at hr he1
   rw [he2] at hf
   have hvc := hv.cons (Blk b4 (.cells (Value.agg #[.int .i64 0, .int .u8 0, .int .i64 0, .int .i64 0, .string ⟨#[]⟩, .int .i64 0, .int .i64 0, .string ⟨#[]⟩, .string ⟨#[]⟩, .string ⟨#[]⟩]).cells t_api_Elem))
   refine c_skip ?_
   refine c_then ?_
   refine c_seq (c_region ?_)
   refine wv h (r_move h rfl) rfl ?_
   clear h a w; intro a w h
   refine wv h (r_move h rfl) rfl ?_
   clear h a w; intro a w h
   refine wv h (r_elP h rfl rfl K.u_api_Chart K.sz_api_Elem (by first | exact Views.own 0 rfl | exact Views.own 1 rfl | exact Views.own 2 rfl | exact Views.own 3 rfl | exact Views.own 4 rfl | exact Views.own 5 rfl | assumption | exact Views.of_drop 1 (by assumption) | exact Views.of_drop 2 (by assumption) | exact Views.of_drop 3 (by assumption) | exact Views.of_drop 4 (by assumption) | exact Views.of_drop 5 (by assumption) | exact Views.of_drop 6 (by assumption) | exact Views.of_drop 7 (by assumption) | exact Views.of_drop 8 (by assumption) | exact Views.of_drop 9 (by assumption) | exact Views.of_drop 10 (by assumption) | exact Views.of_drop 11 (by assumption) | exact Views.of_drop 12 (by assumption)) (by first | omega | (simp; done)) (by first | omega | (simp only [List.length_cons, List.length_nil]; omega) | (simp; done) | (simp; omega))) rfl ?_
   clear h a w; intro a w h
   first
      | (refine wv h (r_elM h rfl K.u_api_Elem rfl K.sz_api_Elem rfl (by first | exact Views.own 0 rfl | exact Views.own 1 rfl | exact Views.own 2 rfl | exact Views.own 3 rfl | exact Views.own 4 rfl | exact Views.own 5 rfl | assumption | exact Views.of_drop 1 (by assumption) | exact Views.of_drop 2 (by assumption) | exact Views.of_drop 3 (by assumption) | exact Views.of_drop 4 (by assumption) | exact Views.of_drop 5 (by assumption) | exact Views.of_drop 6 (by assumption) | exact Views.of_drop 7 (by assumption) | exact Views.of_drop 8 (by assumption) | exact Views.of_drop 9 (by assumption) | exact Views.of_drop 10 (by assumption) | exact Views.of_drop 11 (by assumption) | exact Views.of_drop 12 (by assumption)) (by assumption)) rfl ?_)
      | (refine wv h (r_elMd h rfl K.u_api_Elem rfl K.sz_api_Elem rfl (by first | exact Views.own 0 rfl | exact Views.own 1 rfl | exact Views.own 2 rfl | exact Views.own 3 rfl | exact Views.own 4 rfl | exact Views.own 5 rfl | assumption | exact Views.of_drop 1 (by assumption) | exact Views.of_drop 2 (by assumption) | exact Views.of_drop 3 (by assumption) | exact Views.of_drop 4 (by assumption) | exact Views.of_drop 5 (by assumption) | exact Views.of_drop 6 (by assumption) | exact Views.of_drop 7 (by assumption) | exact Views.of_drop 8 (by assumption) | exact Views.of_drop 9 (by assumption) | exact Views.of_drop 10 (by assumption) | exact Views.of_drop 11 (by assumption) | exact Views.of_drop 12 (by assumption)) (by first | omega | (simp only [List.length_cons, List.length_nil]; omega) | (simp; done) | (simp; omega))) rfl ?_)
   clear h a w; intro a w h
   first
      | (refine wl rfl (op_stA h rfl rfl K.sz_api_Elem (by first | exact Row.len _ | rfl | assumption | (simp; done) | (simp; omega) | omega) (by first | exact Row.one _ | exact bs_one _ | assumption | (simp; done) | (simp; (repeat' apply And.intro) <;> first | rfl | assumption)) 0 rfl (by first | rfl | assumption | (simp; done) | (simp; omega) | omega) ?_))
      | (refine wl rfl (op_stA h rfl rfl K.sz_api_Elem (by first | exact Row.len _ | rfl | assumption | (simp; done) | (simp; omega) | omega) (by first | exact Row.one _ | exact bs_one _ | assumption | (simp; done) | (simp; (repeat' apply And.intro) <;> first | rfl | assumption)) 1 rfl (by first | rfl | assumption | (simp; done) | (simp; omega) | omega) ?_))
      | (refine wl rfl (op_stA h rfl rfl K.sz_api_Elem (by first | exact Row.len _ | rfl | assumption | (simp; done) | (simp; omega) | omega) (by first | exact Row.one _ | exact bs_one _ | assumption | (simp; done) | (simp; (repeat' apply And.intro) <;> first | rfl | assumption)) 2 rfl (by first | rfl | assumption | (simp; done) | (simp; omega) | omega) ?_))
      | (refine wl rfl (op_stA h rfl rfl K.sz_api_Elem (by first | exact Row.len _ | rfl | assumption | (simp; done) | (simp; omega) | omega) (by first | exact Row.one _ | exact bs_one _ | assumption | (simp; done) | (simp; (repeat' apply And.intro) <;> first | rfl | assumption)) 3 rfl (by first | rfl | assumption | (simp; done) | (simp; omega) | omega) ?_))
      | (refine wl rfl (op_stA h rfl rfl K.sz_api_Elem (by first | exact Row.len _ | rfl | assumption | (simp; done) | (simp; omega) | omega) (by first | exact Row.one _ | exact bs_one _ | assumption | (simp; done) | (simp; (repeat' apply And.intro) <;> first | rfl | assumption)) 4 rfl (by first | rfl | assumption | (simp; done) | (simp; omega) | omega) ?_))
      | (refine wl rfl (op_stA h rfl rfl K.sz_api_Elem (by first | exact Row.len _ | rfl | assumption | (simp; done) | (simp; omega) | omega) (by first | exact Row.one _ | exact bs_one _ | assumption | (simp; done) | (simp; (repeat' apply And.intro) <;> first | rfl | assumption)) 5 rfl (by first | rfl | assumption | (simp; done) | (simp; omega) | omega) ?_))
   clear h a w; intro a w h
   (try simp only [List.set_cons_zero, List.set_cons_succ] at h)
   refine wv h (r_assign h rfl) rfl ?_
   clear h a w; intro a w h
   refine wnil (c_then ?_)
   refine c_ret ?_
   exact retct h rfl rfl rfl K.u_api_Elem rfl K.sz_api_Elem 0 rfl rfl ⟨(), by rw [findD, hf]; rfl, h.2.drop 1, trivial⟩
theorem chart_Children (s w : World) (v : Value) (l : List El) (id : Int) (F : List HItem) (hl : l.length ≤ 1000) (hv : Views F 10 v l.length (l.flatMap cellsE)) (hs : Sat s w F) :
    Calls P n_chart_Children #[v, .int .i64 id] w (Ret s (fun v : Value => v) (fun v => OwnL (Value.int .i64) v ((l.filter fun e => decide (e.parent = id)).map El.id) :: F) (fun _ => True)) := by
  refine enter K.fn_chart_Children rfl K.nt_chart_Children rfl hs ?_
  clear hs w; intro a w h
  refine c_seq (c_region ?_)
  refine wv h (r_assign h rfl) rfl ?_
  clear h a w; intro a w h
  refine wnil (c_then ?_)
  refine c_seq (c_region ?_)
  refine wv h (r_assign h rfl) rfl ?_
  clear h a w; intro a w h
  refine wnil (c_then ?_)
  refine c_seq ?_
  refine c_seq (c_region ?_)
  refine wv h (r_move h rfl) rfl ?_
  clear h a w; intro a w h
  refine wv h (r_lenV h rfl K.u_api_Chart (by first | exact Views.own 0 rfl | exact Views.own 1 rfl | exact Views.own 2 rfl | exact Views.own 3 rfl | exact Views.own 4 rfl | exact Views.own 5 rfl | assumption | exact Views.of_drop 1 (by assumption) | exact Views.of_drop 2 (by assumption) | exact Views.of_drop 3 (by assumption) | exact Views.of_drop 4 (by assumption) | exact Views.of_drop 5 (by assumption) | exact Views.of_drop 6 (by assumption) | exact Views.of_drop 7 (by assumption) | exact Views.of_drop 8 (by assumption) | exact Views.of_drop 9 (by assumption) | exact Views.of_drop 10 (by assumption) | exact Views.of_drop 11 (by assumption) | exact Views.of_drop 12 (by assumption))) rfl ?_
  clear h a w; intro a w h
  refine wv h (r_move h rfl) rfl ?_
  clear h a w; intro a w h
  refine wnil (c_then ?_)
  refine c_block ?_
  refine c_loopX ⟨h.1, (h.addNilL (enc := Value.int .i64)).2⟩ (X := Value × List Int × Nat) (fun x => [(1, .int .i64 id), (5, x.1), (8, v), (9, .int .i64 (l.length : Int)), (10, .int .i64 (x.2.2 : Int))]) (fun x => OwnL (Value.int .i64) x.1 x.2.1 :: F)
    (fun x => x.2.2 ≤ l.length ∧ x.2.1.length ≤ x.2.2 ∧ x.2.1 ++ ((l.drop x.2.2).filter fun e => decide (e.parent = id)).map El.id = (l.filter fun e => decide (e.parent = id)).map El.id) (fun x => l.length - x.2.2) (.slice none 0 0, [], 0) ((h.addNilL (enc := Value.int .i64)).keep [1, 5, 8, 9, 10]) ⟨Nat.zero_le _, Nat.le_refl _, rfl⟩ ?_
  clear h a w; intro x a w hx h
  obtain ⟨ov, out, i⟩ := x
  obtain ⟨hx1, hx2, hx3⟩ := hx
  dsimp only at hx1 hx2 hx3 h
  as_aux_lemma =>
   refine c_seq (c_region ?_)
   refine wv h (r_bin h rfl rfl (B.lss_int)) rfl ?_
   clear h a w; intro a w h
   refine wnil (c_then ?_)
   refine c_seq ?_
   first
    | refine c_condD h rfl (fun ht1 => ?_) (fun ht1 => ?_)
    | refine c_condP h rfl (by first | (simp only [Bool.and_eq_true, Bool.or_eq_true, Bool.not_eq_true', decide_eq_true_eq, decide_eq_false_iff_not, ne_eq, Bool.not_eq_eq_eq_not, Bool.not_true, beq_iff_eq, bne_iff_ne]; exact Iff.rfl) | exact Iff.rfl) (fun ht1 => ?_) (fun ht1 => ?_)
   ·
    obtain ⟨e, he⟩ := get_some (l := l) (i := i) (by omega)
    rw [List.drop_eq_getElem_cons (by omega), show l[i] = e from (List.getElem?_eq_some_iff.1 he).2, List.filter_cons] at hx3
    refine c_skip ?_
    refine c_then ?_
    refine c_seq ?_
    refine c_block ?_
    refine c_seq (c_region ?_)
    refine wv h (r_elP h rfl rfl K.u_api_Chart K.sz_api_Elem (by first | exact Views.own 0 rfl | exact Views.own 1 rfl | exact Views.own 2 rfl | exact Views.own 3 rfl | exact Views.own 4 rfl | exact Views.own 5 rfl | assumption | exact Views.of_drop 1 (by assumption) | exact Views.of_drop 2 (by assumption) | exact Views.of_drop 3 (by assumption) | exact Views.of_drop 4 (by assumption) | exact Views.of_drop 5 (by assumption) | exact Views.of_drop 6 (by assumption) | exact Views.of_drop 7 (by assumption) | exact Views.of_drop 8 (by assumption) | exact Views.of_drop 9 (by assumption) | exact Views.of_drop 10 (by assumption) | exact Views.of_drop 11 (by assumption) | exact Views.of_drop 12 (by assumption)) (by first | omega | (simp; done)) (by first | omega | (simp only [List.length_cons, List.length_nil]; omega) | (simp; done) | (simp; omega))) rfl ?_
    clear h a w; intro a w h
    first
        | (refine wv h (r_elM h rfl K.u_api_Elem rfl K.sz_api_Elem rfl (by first | exact Views.own 0 rfl | exact Views.own 1 rfl | exact Views.own 2 rfl | exact Views.own 3 rfl | exact Views.own 4 rfl | exact Views.own 5 rfl | assumption | exact Views.of_drop 1 (by assumption) | exact Views.of_drop 2 (by assumption) | exact Views.of_drop 3 (by assumption) | exact Views.of_drop 4 (by assumption) | exact Views.of_drop 5 (by assumption) | exact Views.of_drop 6 (by assumption) | exact Views.of_drop 7 (by assumption) | exact Views.of_drop 8 (by assumption) | exact Views.of_drop 9 (by assumption) | exact Views.of_drop 10 (by assumption) | exact Views.of_drop 11 (by assumption) | exact Views.of_drop 12 (by assumption)) (by assumption)) rfl ?_)
        | (refine wv h (r_elMd h rfl K.u_api_Elem rfl K.sz_api_Elem rfl (by first | exact Views.own 0 rfl | exact Views.own 1 rfl | exact Views.own 2 rfl | exact Views.own 3 rfl | exact Views.own 4 rfl | exact Views.own 5 rfl | assumption | exact Views.of_drop 1 (by assumption) | exact Views.of_drop 2 (by assumption) | exact Views.of_drop 3 (by assumption) | exact Views.of_drop 4 (by assumption) | exact Views.of_drop 5 (by assumption) | exact Views.of_drop 6 (by assumption) | exact Views.of_drop 7 (by assumption) | exact Views.of_drop 8 (by assumption) | exact Views.of_drop 9 (by assumption) | exact Views.of_drop 10 (by assumption) | exact Views.of_drop 11 (by assumption) | exact Views.of_drop 12 (by assumption)) (by first | omega | (simp only [List.length_cons, List.length_nil]; omega) | (simp; done) | (simp; omega))) rfl ?_)
    clear h a w; intro a w h
    refine wl rfl (op_alloc h K.z_api_Elem rfl ?_)
    clear h a w; intro b7 a w h
    first
        | (refine wl rfl (op_stA h rfl rfl K.sz_api_Elem (by first | exact Row.len _ | rfl | assumption | (simp; done) | (simp; omega) | omega) (by first | exact Row.one _ | exact bs_one _ | assumption | (simp; done) | (simp; (repeat' apply And.intro) <;> first | rfl | assumption)) 0 rfl (by first | rfl | assumption | (simp; done) | (simp; omega) | omega) ?_))
        | (refine wl rfl (op_stA h rfl rfl K.sz_api_Elem (by first | exact Row.len _ | rfl | assumption | (simp; done) | (simp; omega) | omega) (by first | exact Row.one _ | exact bs_one _ | assumption | (simp; done) | (simp; (repeat' apply And.intro) <;> first | rfl | assumption)) 1 rfl (by first | rfl | assumption | (simp; done) | (simp; omega) | omega) ?_))
        | (refine wl rfl (op_stA h rfl rfl K.sz_api_Elem (by first | exact Row.len _ | rfl | assumption | (simp; done) | (simp; omega) | omega) (by first | exact Row.one _ | exact bs_one _ | assumption | (simp; done) | (simp; (repeat' apply And.intro) <;> first | rfl | assumption)) 2 rfl (by first | rfl | assumption | (simp; done) | (simp; omega) | omega) ?_))
        | (refine wl rfl (op_stA h rfl rfl K.sz_api_Elem (by first | exact Row.len _ | rfl | assumption | (simp; done) | (simp; omega) | omega) (by first | exact Row.one _ | exact bs_one _ | assumption | (simp; done) | (simp; (repeat' apply And.intro) <;> first | rfl | assumption)) 3 rfl (by first | rfl | assumption | (simp; done) | (simp; omega) | omega) ?_))
        | (refine wl rfl (op_stA h rfl rfl K.sz_api_Elem (by first | exact Row.len _ | rfl | assumption | (simp; done) | (simp; omega) | omega) (by first | exact Row.one _ | exact bs_one _ | assumption | (simp; done) | (simp; (repeat' apply And.intro) <;> first | rfl | assumption)) 4 rfl (by first | rfl | assumption | (simp; done) | (simp; omega) | omega) ?_))
        | (refine wl rfl (op_stA h rfl rfl K.sz_api_Elem (by first | exact Row.len _ | rfl | assumption | (simp; done) | (simp; omega) | omega) (by first | exact Row.one _ | exact bs_one _ | assumption | (simp; done) | (simp; (repeat' apply And.intro) <;> first | rfl | assumption)) 5 rfl (by first | rfl | assumption | (simp; done) | (simp; omega) | omega) ?_))
    clear h a w; intro a w h
    (try simp only [List.set_cons_zero, List.set_cons_succ] at h)
    refine wnil (c_then ?_)
    refine c_seq (c_region ?_)
    refine wv h (r_fieldAddr h 2 rfl K.u_api_Elem rfl K.sz_int rfl rfl) rfl ?_
    clear h a w; intro a w h
    first
        | (refine wv h (r_ldN h rfl K.u_int rfl 0 rfl rfl) rfl ?_)
        | (refine wv h (r_ldN h rfl K.u_int rfl 1 rfl rfl) rfl ?_)
        | (refine wv h (r_ldN h rfl K.u_int rfl 2 rfl rfl) rfl ?_)
        | (refine wv h (r_ldN h rfl K.u_int rfl 3 rfl rfl) rfl ?_)
        | (refine wv h (r_ldN h rfl K.u_int rfl 4 rfl rfl) rfl ?_)
        | (refine wv h (r_ldN h rfl K.u_int rfl 5 rfl rfl) rfl ?_)
        | (refine wv h (r_ldN h rfl K.u_int rfl 6 rfl rfl) rfl ?_)
        | (refine wv h (r_ldC (o := 2) h rfl K.u_int rfl 0 rfl) rfl ?_)
        | (refine wv h (r_ldC (o := 2) h rfl K.u_int rfl 1 rfl) rfl ?_)
        | (refine wv h (r_ldC (o := 2) h rfl K.u_int rfl 2 rfl) rfl ?_)
        | (refine wv h (r_ldC (o := 2) h rfl K.u_int rfl 3 rfl) rfl ?_)
        | (refine wv h (r_ldC (o := 2) h rfl K.u_int rfl 4 rfl) rfl ?_)
        | (refine wv h (r_ldC (o := 2) h rfl K.u_int rfl 5 rfl) rfl ?_)
        | (refine wv h (r_ldC (o := 2) h rfl K.u_int rfl 6 rfl) rfl ?_)
        | (refine wv h (r_load h rfl K.u_int rfl 0 rfl rfl) rfl ?_)
        | (refine wv h (r_load h rfl K.u_int rfl 1 rfl rfl) rfl ?_)
        | (refine wv h (r_load h rfl K.u_int rfl 2 rfl rfl) rfl ?_)
        | (refine wv h (r_load h rfl K.u_int rfl 3 rfl rfl) rfl ?_)
        | (refine wv h (r_load h rfl K.u_int rfl 4 rfl rfl) rfl ?_)
        | (refine wv h (r_load h rfl K.u_int rfl 5 rfl rfl) rfl ?_)
        | (refine wv h (r_load1 h rfl K.u_int rfl (by assumption)) rfl ?_)
    clear h a w; intro a w h
    refine wv h (r_move h rfl) rfl ?_
    clear h a w; intro a w h
    refine wv h (r_bin h rfl rfl (B.eql_int)) rfl ?_
    clear h a w; intro a w h
    refine wnil (c_then ?_)
    first
     | refine c_condD h rfl (fun ht2 => ?_) (fun ht2 => ?_)
     | refine c_condP h rfl (by first | (simp only [Bool.and_eq_true, Bool.or_eq_true, Bool.not_eq_true', decide_eq_true_eq, decide_eq_false_iff_not, ne_eq, Bool.not_eq_eq_eq_not, Bool.not_true, beq_iff_eq, bne_iff_ne]; exact Iff.rfl) | exact Iff.rfl) (fun ht2 => ?_) (fun ht2 => ?_)
    ·
     rw [decide_eq_true ht2, if_pos rfl, List.map_cons] at hx3
     as_aux_lemma =>
      refine c_region ?_
      refine wv h (r_move h rfl) rfl ?_
      clear h a w; intro a w h
      refine wv h (r_fieldAddr0 h rfl K.u_api_Elem rfl K.sz_int rfl rfl) rfl ?_
      clear h a w; intro a w h
      first
            | (refine wv h (r_ldN h rfl K.u_int rfl 0 rfl rfl) rfl ?_)
            | (refine wv h (r_ldN h rfl K.u_int rfl 1 rfl rfl) rfl ?_)
            | (refine wv h (r_ldN h rfl K.u_int rfl 2 rfl rfl) rfl ?_)
            | (refine wv h (r_ldN h rfl K.u_int rfl 3 rfl rfl) rfl ?_)
            | (refine wv h (r_ldN h rfl K.u_int rfl 4 rfl rfl) rfl ?_)
            | (refine wv h (r_ldN h rfl K.u_int rfl 5 rfl rfl) rfl ?_)
            | (refine wv h (r_ldN h rfl K.u_int rfl 6 rfl rfl) rfl ?_)
            | (refine wv h (r_ldC (o := 0) h rfl K.u_int rfl 0 rfl) rfl ?_)
            | (refine wv h (r_ldC (o := 0) h rfl K.u_int rfl 1 rfl) rfl ?_)
            | (refine wv h (r_ldC (o := 0) h rfl K.u_int rfl 2 rfl) rfl ?_)
            | (refine wv h (r_ldC (o := 0) h rfl K.u_int rfl 3 rfl) rfl ?_)
            | (refine wv h (r_ldC (o := 0) h rfl K.u_int rfl 4 rfl) rfl ?_)
            | (refine wv h (r_ldC (o := 0) h rfl K.u_int rfl 5 rfl) rfl ?_)
            | (refine wv h (r_ldC (o := 0) h rfl K.u_int rfl 6 rfl) rfl ?_)
            | (refine wv h (r_load h rfl K.u_int rfl 0 rfl rfl) rfl ?_)
            | (refine wv h (r_load h rfl K.u_int rfl 1 rfl rfl) rfl ?_)
            | (refine wv h (r_load h rfl K.u_int rfl 2 rfl rfl) rfl ?_)
            | (refine wv h (r_load h rfl K.u_int rfl 3 rfl rfl) rfl ?_)
            | (refine wv h (r_load h rfl K.u_int rfl 4 rfl rfl) rfl ?_)
            | (refine wv h (r_load h rfl K.u_int rfl 5 rfl rfl) rfl ?_)
            | (refine wv h (r_load1 h rfl K.u_int rfl (by assumption)) rfl ?_)
      clear h a w; intro a w h
      refine wl rfl (op_buildSlice h K.u_S_int K.sz_int K.z_int rfl rfl rfl rfl rfl (by simp [Value.cells, bv, w32, w64, sv]) rfl ?_)
      clear h a w; intro b21 a w h
      first
            | (refine wl rfl (op_appendL1 (enc := (Value.int .i64)) h rfl rfl rfl K.u_S_int K.sz_int K.z_int rfl rfl 0 rfl (by first | omega | (simp only [List.length_cons, List.length_nil]; omega) | (simp; done) | (simp; omega)) rfl ?_))
            | (refine wl rfl (op_appendL1 (enc := (Value.int .i64)) h rfl rfl rfl K.u_S_int K.sz_int K.z_int rfl rfl 1 rfl (by first | omega | (simp only [List.length_cons, List.length_nil]; omega) | (simp; done) | (simp; omega)) rfl ?_))
            | (refine wl rfl (op_appendL1 (enc := (Value.int .i64)) h rfl rfl rfl K.u_S_int K.sz_int K.z_int rfl rfl 2 rfl (by first | omega | (simp only [List.length_cons, List.length_nil]; omega) | (simp; done) | (simp; omega)) rfl ?_))
            | (refine wl rfl (op_appendL1 (enc := (Value.int .i64)) h rfl rfl rfl K.u_S_int K.sz_int K.z_int rfl rfl 3 rfl (by first | omega | (simp only [List.length_cons, List.length_nil]; omega) | (simp; done) | (simp; omega)) rfl ?_))
            | (refine wl rfl (op_appendL1 (enc := (Value.int .i64)) h rfl rfl rfl K.u_S_int K.sz_int K.z_int rfl rfl 4 rfl (by first | omega | (simp only [List.length_cons, List.length_nil]; omega) | (simp; done) | (simp; omega)) rfl ?_))
            | (refine wl rfl (op_appendL1 (enc := (Value.int .i64)) h rfl rfl rfl K.u_S_int K.sz_int K.z_int rfl rfl 5 rfl (by first | omega | (simp only [List.length_cons, List.length_nil]; omega) | (simp; done) | (simp; omega)) rfl ?_))
      clear h a w; intro v22 a w h
      (try simp only [List.set_cons_zero, List.set_cons_succ] at h)
      refine wv h (r_assign h rfl) rfl ?_
      clear h a w; intro a w h
      refine wnil ?_
      refine b_normal ?_
      refine c_then ?_
      refine c_region ?_
      refine wv h (r_bin h rfl rfl (B.add_i64 (by omega) (by omega))) rfl ?_
      clear h a w; intro a w h
      refine wv h (r_move h rfl) rfl ?_
      clear h a w; intro a w h
      refine wnil ?_
      exact ⟨(v22, out ++ [e.id], i + 1), ⟨(h.keep [1, 5, 8, 9, 10]).1, by first | exact h.2.drop 1 | exact h.2.rid 1 | exact h.2⟩, ⟨by show i + 1 ≤ l.length; omega, by show (out ++ [e.id]).length ≤ i + 1; simp; omega, by rw [← hx3]; simp⟩, by show l.length - (i + 1) < l.length - i; omega⟩
    ·
     rw [decide_eq_false ht2, if_neg (by simp)] at hx3
     refine c_skip ?_
     refine b_normal ?_
     refine c_then ?_
     refine c_region ?_
     refine wv h (r_bin h rfl rfl (B.add_i64 (by omega) (by omega))) rfl ?_
     clear h a w; intro a w h
     refine wv h (r_move h rfl) rfl ?_
     clear h a w; intro a w h
     refine wnil ?_
     exact ⟨(ov, out, i + 1), ⟨(h.keep [1, 5, 8, 9, 10]).1, h.2.drop 1⟩, ⟨by show i + 1 ≤ l.length; omega, by show out.length ≤ i + 1; omega, hx3⟩, by show l.length - (i + 1) < l.length - i; omega⟩
   ·
    obtain rfl : i = l.length := by omega
    rw [List.drop_length, List.filter_nil, List.map_nil, List.append_nil] at hx3
    refine c_exit ?_
    refine e_then ?_
    refine e_then ?_
    refine e_here ?_
    refine c_then ?_
    refine c_seq (c_region ?_)
    refine wv h (r_move h rfl) rfl ?_
    clear h a w; intro a w h
    refine wv h (r_assign h rfl) rfl ?_
    clear h a w; intro a w h
    refine wnil (c_then ?_)
    refine c_ret ?_
    exact ret1 h rfl rfl ⟨ov, rfl, by rw [← hx3]; exact h.2, trivial⟩
end Go.Proofs.K
