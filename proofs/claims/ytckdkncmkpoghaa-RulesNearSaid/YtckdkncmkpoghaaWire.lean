/- The contracts of package wire's Right and Encode, and of what they lean on in package chart. -/
import Derived.Test.YtckdkncmkpoghaaDigit
import Derived.Test.YtckdkncmkpoghaaWirePure
set_option linter.unusedVariables false
set_option linter.unusedSimpArgs false
set_option maxRecDepth 10000
namespace Go.Proofs.K
open Go.Sl

/-- a chart that is read -/
abbrev ViewsC (L : List HItem) (v : Value) (l : List El) : Prop := Views L 10 v l.length (cellsC l)

theorem chart_rising (s w : World) (v : Value) (l : List El) (F : List HItem) (hv : ViewsC F v l) (hs : Sat s w F) :
    Calls P n_chart_Rising #[v] w (Ret s (fun b : Bool => .bool b) (fun _ => F) (fun b => b = true ↔ Rises l)) := by
  refine enter K.fn_chart_Rising rfl K.nt_chart_Rising rfl hs ?_
  clear hs w; intro a w h
  have hlen : l.length ≤ 9223372036854775807 := by
    obtain ⟨A, cap, _, h1, h2⟩ := Views.shape hv h.2
    simp [maxLen] at h2; omega
  refine c_seq (c_region ?_)
  refine wv h (r_assign h rfl) rfl ?_
  clear h a w; intro a w h
  refine wnil (c_then ?_)
  refine c_seq ?_
  refine c_seq (c_region ?_)
  refine wv h (r_assign h rfl) rfl ?_
  clear h a w; intro a w h
  refine wnil (c_then ?_)
  refine c_block ?_
  refine c_loop (X := Nat) (fun i => [(0, v), (3, .int .i64 (i : Int))])
    (fun _ => F) (fun i => 1 ≤ i ∧ i ≤ l.length + 1 ∧ ∀ j x y, j + 1 < i → l[j]? = some x → l[j + 1]? = some y → x.id < y.id) (fun i => l.length - i) 1 (h.keep [0, 3]) ⟨by simp, by simp, by intro j x y hj; omega⟩ ?_
  clear h a w; intro i a w hx h
  obtain ⟨hx1, hx0, hx2⟩ := hx
  as_aux_lemma =>
    refine c_seq ?_
    refine c_seq (c_region ?_)
    refine wv h (r_move h rfl) rfl ?_
    clear h a w; intro a w h
    refine wv h (r_move h rfl) rfl ?_
    clear h a w; intro a w h
    refine wv h (r_lenV h rfl K.u_api_Chart hv) rfl ?_
    clear h a w; intro a w h
    refine wv h (r_bin h rfl rfl (B.lss_int)) rfl ?_
    clear h a w; intro a w h
    refine wnil (c_then ?_)
    refine c_condD h rfl (fun ht1 => ?_) (fun ht1 => ?_)
    ·
      obtain ⟨e1, he1⟩ : ∃ e, l[i - 1]? = some e := ⟨l[i - 1]'(by omega), by simp⟩
      obtain ⟨e2, he2⟩ : ∃ e, l[i]? = some e := ⟨l[i]'(by omega), by simp⟩
      obtain ⟨g1, o1, c1, hg1, hc1⟩ := hv.cell h.2 (k := i - 1) (by omega) (cellsC_at l (i - 1) e1 he1)
      obtain ⟨g2, o2, c2, hg2, hc2⟩ := hv.cell h.2 (k := i) (by omega) (cellsC_at l i e2 he2)
      refine c_skip ?_
      refine c_then ?_
      refine c_seq ?_
      refine c_block ?_
      refine c_seq (c_draw K.mixed (by kernel_rfl) h ?_)
      clear h a w; intro a hE
      refine qv hE (fun w hw => r_move ⟨hE, hw⟩ rfl) rfl ?_
      clear hE a; intro a hE
      refine qv hE (fun w hw => r_move ⟨hE, hw⟩ rfl) rfl ?_
      clear hE a; intro a hE
      refine qv hE (fun w hw => r_bin ⟨hE, hw⟩ rfl rfl (B.sub_i64 (by omega) (by omega))) rfl ?_
      clear hE a; intro a hE
      refine qv hE (fun w hw => r_idx ⟨hE, hw⟩ rfl rfl K.u_api_Chart K.sz_api_Elem hg1 (i - 1) (by omega) (by omega)) rfl ?_
      clear hE a; intro a hE
      refine qv hE (fun w hw => r_fieldAddr0 ⟨hE, hw⟩ rfl K.u_api_Elem rfl K.sz_int rfl rfl) rfl ?_
      clear hE a; intro a hE
      refine qv hE (fun w hw => r_loadC ⟨hE, hw⟩ rfl K.u_int rfl hc1 0 (.inl ⟨rfl, rfl⟩) rfl) rfl ?_
      clear hE a; intro a hE
      refine qv hE (fun w hw => r_move ⟨hE, hw⟩ rfl) rfl ?_
      clear hE a; intro a hE
      refine qv hE (fun w hw => r_move ⟨hE, hw⟩ rfl) rfl ?_
      clear hE a; intro a hE
      refine qv hE (fun w hw => r_idx ⟨hE, hw⟩ rfl rfl K.u_api_Chart K.sz_api_Elem hg2 i rfl (by omega)) rfl ?_
      clear hE a; intro a hE
      refine qv hE (fun w hw => r_fieldAddr0 ⟨hE, hw⟩ rfl K.u_api_Elem rfl K.sz_int rfl rfl) rfl ?_
      clear hE a; intro a hE
      refine qv hE (fun w hw => r_loadC ⟨hE, hw⟩ rfl K.u_int rfl hc2 0 (.inl ⟨rfl, rfl⟩) rfl) rfl ?_
      clear hE a; intro a hE
      refine qv hE (fun w hw => r_bin ⟨hE, hw⟩ rfl rfl (B.geq_int)) rfl ?_
      clear hE a; intro a hE
      refine qnil hE ?_
      clear hE a; intro a w h
      refine c_then ?_
      refine c_condD h rfl (fun ht2 => ?_) (fun ht2 => ?_)
      ·
        as_aux_lemma =>
          refine c_seq (c_region ?_)
          refine wv h (r_assign h rfl) rfl ?_
          clear h a w; intro a w h
          refine wnil (c_then ?_)
          refine c_ret ?_
          refine ret1 h rfl rfl ⟨false, rfl, h.2, ?_⟩
          constructor
          · intro hh; cases hh
          · intro hR
            have := hR (i - 1) e1 e2 he1 (by rw [show i - 1 + 1 = i by omega]; exact he2)
            omega
      ·
        refine c_skip ?_
        refine b_normal ?_
        refine c_then ?_
        refine c_region ?_
        refine wv h (r_move h rfl) rfl ?_
        clear h a w; intro a w h
        refine wv h (r_bin h rfl rfl (B.add_i64 (by omega) (by omega))) rfl ?_
        clear h a w; intro a w h
        refine wv h (r_assign h rfl) rfl ?_
        clear h a w; intro a w h
        refine wnil ?_
        refine ⟨i + 1, h.keep [0, 3], ⟨?_, ?_, ?_⟩, ?_⟩
        · show 1 ≤ i + 1; omega
        · show i + 1 ≤ l.length + 1; omega
        · intro j x y hj hx' hy'
          by_cases hji : j + 1 = i
          · have : j = i - 1 := by omega
            subst this
            rw [he1] at hx'; rw [hji, he2] at hy'
            cases hx'; cases hy'
            omega
          · exact hx2 j x y (by omega) hx' hy'
        · show l.length - (i + 1) < l.length - i; omega
    ·
      refine c_exit ?_
      refine e_then ?_
      refine e_then ?_
      refine e_here ?_
      refine c_then ?_
      refine c_seq (c_region ?_)
      refine wv h (r_assign h rfl) rfl ?_
      clear h a w; intro a w h
      refine wnil (c_then ?_)
      refine c_ret ?_
      refine ret1 h rfl rfl ⟨true, rfl, h.2, ?_⟩
      refine ⟨fun _ => ?_, fun _ => rfl⟩
      intro j x y hx' hy'
      have : j + 1 < l.length := (List.getElem?_eq_some_iff.1 hy').1
      exact hx2 j x y (by omega) hx' hy'

theorem wire_right (s w : World) (v : Value) (l : List El) (F : List HItem) (hv : ViewsC F v l) (hs : Sat s w F) :
    Calls P n_wire_Right #[v] w (Ret s (fun b : Bool => .bool b) (fun _ => F) (fun b => b = true ↔ RightC l)) := by
  refine enter K.fn_wire_Right rfl K.nt_wire_Right rfl hs ?_
  clear hs w; intro a w h
  refine c_seq (c_region ?_)
  refine wv h (r_assign h rfl) rfl ?_
  clear h a w; intro a w h
  refine wnil (c_then ?_)
  refine c_seq ?_
  refine c_seq (c_region ?_)
  refine wv h (r_move h rfl) rfl ?_
  clear h a w; intro a w h
  refine wv h (r_lenV h rfl K.u_api_Chart hv) rfl ?_
  clear h a w; intro a w h
  have hlen : l.length ≤ 9223372036854775807 := by
    obtain ⟨A, cap, _, h1, h2⟩ := Views.shape hv h.2
    simp [maxLen] at h2; omega
  refine wv h (r_move h rfl) rfl ?_
  clear h a w; intro a w h
  refine wnil (c_then ?_)
  refine c_block ?_
  refine c_loop (X := Nat) (fun i => [(0, v), (9, v), (10, .int .i64 (l.length : Int)), (11, .int .i64 (i : Int))])
    (fun _ => F) (fun i => i ≤ l.length ∧ ∀ e ∈ l.take i, OkE e) (fun i => l.length - i) 0 (h.keep [0, 9, 10, 11]) ⟨by simp, by simp⟩ ?_
  clear h a w; intro i a w hx h
  obtain ⟨hx1, hx2⟩ := hx
  as_aux_lemma =>
    refine c_seq (c_region ?_)
    refine wv h (r_bin h rfl rfl (B.lss_int)) rfl ?_
    clear h a w; intro a w h
    refine wnil (c_then ?_)
    refine c_seq ?_
    refine c_condD h rfl (fun ht1 => ?_) (fun ht1 => ?_)
    ·
      obtain ⟨e, he⟩ : ∃ e, l[i]? = some e := ⟨l[i]'(by omega), by simp⟩
      have hmem : e ∈ l := List.mem_of_getElem? he
      have hts : l.take (i + 1) = l.take i ++ [e] := by rw [List.take_add_one, he]; rfl
      refine c_skip ?_
      refine c_then ?_
      refine c_seq ?_
      refine c_block ?_
      refine c_seq (c_region ?_)
      refine wl rfl (op_indexAddr h rfl rfl K.u_api_Chart K.sz_api_Elem hv i rfl (by omega) (cellsC_at l i e he) rfl ?_)
      clear h a w; intro p a w hp h
      refine wv h (r_loadCA h rfl K.u_api_Elem rfl K.sz_api_Elem hp rfl) rfl ?_
      clear h a w; intro a w h
      refine wl rfl (op_alloc h K.z_api_Elem rfl ?_)
      clear h a w; intro be a w h
      refine wl rfl (op_storeAgg h rfl rfl K.sz_api_Elem (cellsE_one e) 0 rfl rfl (NF.zero 10) (vs' := (cellsE e).toArray) rfl ?_)
      clear h a w; intro a w h
      refine wnil (c_then ?_)
      refine c_seq ?_
      refine c_seq (c_region ?_)
      refine wv h (r_fieldAddr h 2 rfl K.u_api_Elem rfl K.sz_int rfl rfl) rfl ?_
      clear h a w; intro a w h
      refine wv h (r_load (v := .int .i64 e.parent) h rfl K.u_int rfl 0 rfl rfl) rfl ?_
      clear h a w; intro a w h
      refine wv h (r_fieldAddr h 3 rfl K.u_api_Elem rfl K.sz_int rfl rfl) rfl ?_
      clear h a w; intro a w h
      refine wv h (r_load (v := .int .i64 e.order) h rfl K.u_int rfl 0 rfl rfl) rfl ?_
      clear h a w; intro a w h
      refine wv h (r_fieldAddr h 5 rfl K.u_api_Elem rfl K.sz_int rfl rfl) rfl ?_
      clear h a w; intro a w h
      refine wv h (r_load (v := .int .i64 e.src) h rfl K.u_int rfl 0 rfl rfl) rfl ?_
      clear h a w; intro a w h
      refine wv h (r_fieldAddr h 6 rfl K.u_api_Elem rfl K.sz_int rfl rfl) rfl ?_
      clear h a w; intro a w h
      refine wv h (r_load (v := .int .i64 e.dst) h rfl K.u_int rfl 0 rfl rfl) rfl ?_
      clear h a w; intro a w h
      refine wl rfl (op_buildSlice h K.u_S_int K.sz_int K.z_int rfl rfl rfl rfl rfl (by simp [Value.cells, bv, w32, w64, sv]) rfl ?_)
      clear h a w; intro b4 a w h
      refine wv h (r_lenV h rfl K.u_S_int (Views.blk (size := 1) (xs := [.int .i64 e.parent, .int .i64 e.order, .int .i64 e.src, .int .i64 e.dst]) 0 rfl rfl rfl rfl rfl)) rfl ?_
      clear h a w; intro a w h
      refine wv h (r_move h rfl) rfl ?_
      clear h a w; intro a w h
      refine wnil (c_then ?_)
      refine c_block ?_
      refine c_loop (X := Nat) (fun j => [(0, v), (9, v), (10, .int .i64 (l.length : Int)), (11, .int .i64 (i : Int)), (4, .pointer (some ⟨be, 0, none⟩)), (23, .slice (some ⟨b4, 0, none⟩) 4 4), (24, .int .i64 4), (25, .int .i64 (j : Int))])
        (fun _ => Blk b4 (.cells #[.int .i64 e.parent, .int .i64 e.order, .int .i64 e.src, .int .i64 e.dst] t_int) :: Blk be (.cells (cellsE e).toArray t_api_Elem) :: F)
        (fun j => j ≤ 4 ∧ ∀ n ∈ [e.parent, e.order, e.src, e.dst].take j, 0 ≤ n ∧ n ≤ 1048576) (fun j => 4 - j) 0 (h.keep [0, 9, 10, 11, 4, 23, 24, 25]) ⟨by simp, by simp⟩ ?_
      clear h a w; intro j a w hxj h
      obtain ⟨hj1, hj2⟩ := hxj
      as_aux_lemma =>
        refine c_seq (c_region ?_)
        refine wv h (r_bin h rfl rfl (B.lss_int)) rfl ?_
        clear h a w; intro a w h
        refine wnil (c_then ?_)
        refine c_seq ?_
        refine c_condD h rfl (fun ht2 => ?_) (fun ht2 => ?_)
        ·
          obtain ⟨n, hn⟩ : ∃ n, [e.parent, e.order, e.src, e.dst][j]? = some n := ⟨[e.parent, e.order, e.src, e.dst][j]'(by simp; omega), by simp⟩
          have hnv : (#[Value.int .i64 e.parent, .int .i64 e.order, .int .i64 e.src, .int .i64 e.dst] : Array Value)[0 + j * 1]? = some (.int .i64 n) := by
            have : j = 0 ∨ j = 1 ∨ j = 2 ∨ j = 3 := by omega
            rcases this with rfl | rfl | rfl | rfl <;> (simp at hn; subst hn; rfl)
          have hnm : n ∈ [e.parent, e.order, e.src, e.dst] := List.mem_of_getElem? hn
          have htn : [e.parent, e.order, e.src, e.dst].take (j + 1) = [e.parent, e.order, e.src, e.dst].take j ++ [n] := by rw [List.take_add_one, hn]; rfl
          refine c_skip ?_
          refine c_then ?_
          refine c_seq ?_
          refine c_block ?_
          refine c_seq (c_region ?_)
          refine wv h (r_idx h rfl rfl K.u_S_int K.sz_int rfl j rfl (by omega)) rfl ?_
          clear h a w; intro a w h
          refine wv h (r_load h rfl K.u_int rfl 0 rfl hnv) rfl ?_
          clear h a w; intro a w h
          refine wv h (r_assign h rfl) rfl ?_
          clear h a w; intro a w h
          refine wnil (c_then ?_)
          refine c_meet h (X := Unit) (fun _ => [(0, v), (9, v), (10, .int .i64 (l.length : Int)), (11, .int .i64 (i : Int)), (4, .pointer (some ⟨be, 0, none⟩)), (23, .slice (some ⟨b4, 0, none⟩) 4 4), (24, .int .i64 4), (25, .int .i64 (j : Int)), (34, .bool (decide (n < 0 ∨ 1048576 < n)))])
            (fun _ => Blk b4 (.cells #[.int .i64 e.parent, .int .i64 e.order, .int .i64 e.src, .int .i64 e.dst] t_int) :: Blk be (.cells (cellsE e).toArray t_api_Elem) :: F) (fun _ => True) ?_ ?_
          ·
            have hcs : (decide (n < 0) = true ∧ decide (n < 0 ∨ 1048576 < n) = true) ∨ (decide (n < 0) = false ∧ decide (n < 0 ∨ 1048576 < n) = decide (1048576 < n)) := by
              by_cases hneg : n < 0
              · left; exact ⟨decide_eq_true hneg, decide_eq_true (.inl hneg)⟩
              · right; exact ⟨decide_eq_false hneg, decide_eq_decide.2 (by omega)⟩
            rcases hcs with ⟨q1, q2⟩ | ⟨q1, q2⟩
            all_goals
              refine c_region ?_
              refine wv h (r_move h rfl) rfl ?_
              clear h a w; intro a w h
              refine wv h (r_bin h rfl rfl (B.lss_int)) rfl ?_
              clear h a w; intro a w h
              rw [q1] at h
              refine wv h (r_move h rfl) rfl ?_
              clear h a w; intro a w h
              first
                | (refine wvg h (r_move h rfl) rfl rfl ?_)
                | (refine wvs h rfl rfl ?_)
              clear h a w; intro a w h
              first
                | (refine wvg h (r_bin h rfl rfl (B.gtr_int)) rfl rfl ?_)
                | (refine wvs h rfl rfl ?_)
              clear h a w; intro a w h
              first
                | (refine wv h (r_pick_true h rfl rfl) rfl ?_)
                | (refine wv h (r_pick_false h rfl rfl) rfl ?_)
                | (refine wv h (r_pick h rfl rfl rfl) rfl ?_)
              clear h a w; intro a w h
              refine wnil (c_then ?_)
              rw [q2]
              exact ⟨(), h.keep [0, 9, 10, 11, 4, 23, 24, 25, 34], trivial⟩
          ·
            clear h a w; intro z a w hz h
            refine c_condD h rfl (fun ht3 => ?_) (fun ht3 => ?_)
            ·
              as_aux_lemma =>
                refine c_seq (c_region ?_)
                refine wv h (r_assign h rfl) rfl ?_
                clear h a w; intro a w h
                refine wnil (c_then ?_)
                refine c_ret ?_
                refine ret1 h rfl rfl ⟨false, rfl, h.2.drop 2, ?_⟩
                refine ⟨fun hh => (by cases hh), fun hR => ?_⟩
                have := (hR.1 e hmem).1 n hnm
                omega
            ·
              refine c_skip ?_
              refine b_normal ?_
              refine c_then ?_
              refine c_region ?_
              refine wv h (r_bin h rfl rfl (B.add_i64 (by omega) (by omega))) rfl ?_
              clear h a w; intro a w h
              refine wv h (r_move h rfl) rfl ?_
              clear h a w; intro a w h
              refine wnil ?_
              refine ⟨j + 1, h.keep [0, 9, 10, 11, 4, 23, 24, 25], ⟨?_, ?_⟩, ?_⟩
              · show j + 1 ≤ 4; omega
              · intro m hm
                rw [htn, List.mem_append] at hm
                rcases hm with hm | hm
                · exact hj2 m hm
                · rw [List.mem_singleton] at hm; subst hm; omega
              · show 4 - (j + 1) < 4 - j; omega
        ·
          have hj4 : j = 4 := by omega
          subst hj4
          have hnums : ∀ n ∈ [e.parent, e.order, e.src, e.dst], 0 ≤ n ∧ n ≤ 1048576 := hj2
          replace h := h.drop 1
          refine c_exit ?_
          refine e_then ?_
          refine e_then ?_
          refine e_here ?_
          refine c_then ?_
          refine c_seq ?_
          refine c_seq (c_region ?_)
          refine wv h (r_fieldAddr h 4 rfl K.u_api_Elem rfl K.sz_string rfl rfl) rfl ?_
          clear h a w; intro a w h
          refine wv h (r_load (v := sv e.name) h rfl K.u_string rfl 0 rfl rfl) rfl ?_
          clear h a w; intro a w h
          refine wv h (r_fieldAddr h 7 rfl K.u_api_Elem rfl K.sz_string rfl rfl) rfl ?_
          clear h a w; intro a w h
          refine wv h (r_load (v := sv e.event) h rfl K.u_string rfl 0 rfl rfl) rfl ?_
          clear h a w; intro a w h
          refine wv h (r_fieldAddr h 8 rfl K.u_api_Elem rfl K.sz_string rfl rfl) rfl ?_
          clear h a w; intro a w h
          refine wv h (r_load (v := sv e.guard) h rfl K.u_string rfl 0 rfl rfl) rfl ?_
          clear h a w; intro a w h
          refine wv h (r_fieldAddr h 9 rfl K.u_api_Elem rfl K.sz_string rfl rfl) rfl ?_
          clear h a w; intro a w h
          refine wv h (r_load (v := sv e.action) h rfl K.u_string rfl 0 rfl rfl) rfl ?_
          clear h a w; intro a w h
          refine wl rfl (op_buildSlice h K.u_S_string K.sz_string K.z_string rfl rfl rfl rfl rfl (by simp [Value.cells, bv, w32, w64, sv]) rfl ?_)
          clear h a w; intro b5 a w h
          refine wv h (r_lenV h rfl K.u_S_string (Views.blk (size := 1) (xs := [sv e.name, sv e.event, sv e.guard, sv e.action]) 0 rfl rfl rfl rfl rfl)) rfl ?_
          clear h a w; intro a w h
          refine wv h (r_move h rfl) rfl ?_
          clear h a w; intro a w h
          refine wnil (c_then ?_)
          refine c_block ?_
          refine c_loop (X := Nat) (fun j => [(0, v), (9, v), (10, .int .i64 (l.length : Int)), (11, .int .i64 (i : Int)), (4, .pointer (some ⟨be, 0, none⟩)), (44, .slice (some ⟨b5, 0, none⟩) 4 4), (45, .int .i64 4), (46, .int .i64 (j : Int))])
            (fun _ => Blk b5 (.cells #[sv e.name, sv e.event, sv e.guard, sv e.action] t_string) :: Blk be (.cells (cellsE e).toArray t_api_Elem) :: F)
            (fun j => j ≤ 4 ∧ ∀ t ∈ [e.name, e.event, e.guard, e.action].take j, t.length ≤ 12) (fun j => 4 - j) 0 (h.keep [0, 9, 10, 11, 4, 44, 45, 46]) ⟨by simp, by simp⟩ ?_
          clear h a w; intro j a w hxj h
          obtain ⟨hk1, hk2⟩ := hxj
          as_aux_lemma =>
            refine c_seq (c_region ?_)
            refine wv h (r_bin h rfl rfl (B.lss_int)) rfl ?_
            clear h a w; intro a w h
            refine wnil (c_then ?_)
            refine c_seq ?_
            refine c_condD h rfl (fun ht4 => ?_) (fun ht4 => ?_)
            ·
              obtain ⟨t, hn⟩ : ∃ n, [e.name, e.event, e.guard, e.action][j]? = some n := ⟨[e.name, e.event, e.guard, e.action][j]'(by simp; omega), by simp⟩
              have hnv : (#[sv e.name, sv e.event, sv e.guard, sv e.action] : Array Value)[0 + j * 1]? = some (sv t) := by
                have : j = 0 ∨ j = 1 ∨ j = 2 ∨ j = 3 := by omega
                rcases this with rfl | rfl | rfl | rfl <;> (simp at hn; subst hn; rfl)
              have hnm : t ∈ [e.name, e.event, e.guard, e.action] := List.mem_of_getElem? hn
              have htn : [e.name, e.event, e.guard, e.action].take (j + 1) = [e.name, e.event, e.guard, e.action].take j ++ [t] := by rw [List.take_add_one, hn]; rfl
              refine c_skip ?_
              refine c_then ?_
              refine c_seq ?_
              refine c_block ?_
              refine c_seq (c_region ?_)
              refine wv h (r_idx h rfl rfl K.u_S_string K.sz_string rfl j rfl (by omega)) rfl ?_
              clear h a w; intro a w h
              refine wv h (r_load h rfl K.u_string rfl 0 rfl hnv) rfl ?_
              clear h a w; intro a w h
              refine wv h (r_assign h rfl) rfl ?_
              clear h a w; intro a w h
              refine wnil (c_then ?_)
              refine c_seq (c_region ?_)
              refine wv h (r_move h rfl) rfl ?_
              clear h a w; intro a w h
              refine wv h (r_lenT h rfl K.u_string) rfl ?_
              clear h a w; intro a w h
              refine wv h (r_bin h rfl rfl (B.gtr_int)) rfl ?_
              clear h a w; intro a w h
              refine wnil (c_then ?_)
              refine c_condD h rfl (fun ht5 => ?_) (fun ht5 => ?_)
              ·
                as_aux_lemma =>
                  refine c_seq (c_region ?_)
                  refine wv h (r_assign h rfl) rfl ?_
                  clear h a w; intro a w h
                  refine wnil (c_then ?_)
                  refine c_ret ?_
                  refine ret1 h rfl rfl ⟨false, rfl, h.2.drop 2, ?_⟩
                  refine ⟨fun hh => (by cases hh), fun hR => ?_⟩
                  have := (hR.1 e hmem).2.1 t hnm
                  omega
              ·
                refine c_skip ?_
                refine b_normal ?_
                refine c_then ?_
                refine c_region ?_
                refine wv h (r_bin h rfl rfl (B.add_i64 (by omega) (by omega))) rfl ?_
                clear h a w; intro a w h
                refine wv h (r_move h rfl) rfl ?_
                clear h a w; intro a w h
                refine wnil ?_
                refine ⟨j + 1, h.keep [0, 9, 10, 11, 4, 44, 45, 46], ⟨?_, ?_⟩, ?_⟩
                · show j + 1 ≤ 4; omega
                · intro m hm
                  rw [htn, List.mem_append] at hm
                  rcases hm with hm | hm
                  · exact hk2 m hm
                  · rw [List.mem_singleton] at hm; subst hm; omega
                · show 4 - (j + 1) < 4 - j; omega
            ·
              have hj4 : j = 4 := by omega
              subst hj4
              have htxt : ∀ t ∈ [e.name, e.event, e.guard, e.action], t.length ≤ 12 := hk2
              replace h := h.drop 1
              refine c_exit ?_
              refine e_then ?_
              refine e_then ?_
              refine e_here ?_
              refine c_then ?_
              refine c_meet h (X := Unit) (fun _ => [(0, v), (9, v), (10, .int .i64 (l.length : Int)), (11, .int .i64 (i : Int)), (61, .bool (decide (e.id < 1 ∨ 1048576 < e.id)))])
                (fun _ => F) (fun _ => True) ?_ ?_
              ·
                have hcs : (decide (e.id < 1) = true ∧ decide (e.id < 1 ∨ 1048576 < e.id) = true) ∨ (decide (e.id < 1) = false ∧ decide (e.id < 1 ∨ 1048576 < e.id) = decide (1048576 < e.id)) := by
                  by_cases hneg : e.id < 1
                  · left; exact ⟨decide_eq_true hneg, decide_eq_true (.inl hneg)⟩
                  · right; exact ⟨decide_eq_false hneg, decide_eq_decide.2 (by omega)⟩
                rcases hcs with ⟨q1, q2⟩ | ⟨q1, q2⟩
                all_goals
                  refine c_region ?_
                  refine wv h (r_fieldAddr0 h rfl K.u_api_Elem rfl K.sz_int rfl rfl) rfl ?_
                  clear h a w; intro a w h
                  refine wv h (r_load (v := .int .i64 e.id) h rfl K.u_int rfl 0 rfl rfl) rfl ?_
                  clear h a w; intro a w h
                  refine wv h (r_bin h rfl rfl (B.lss_int)) rfl ?_
                  clear h a w; intro a w h
                  rw [q1] at h
                  refine wv h (r_move h rfl) rfl ?_
                  clear h a w; intro a w h
                  first
                    | (refine wvg h (r_fieldAddr0 h rfl K.u_api_Elem rfl K.sz_int rfl rfl) rfl rfl ?_)
                    | (refine wvs h rfl rfl ?_)
                  clear h a w; intro a w h
                  first
                    | (refine wvg h (r_load (v := .int .i64 e.id) h rfl K.u_int rfl 0 rfl rfl) rfl rfl ?_)
                    | (refine wvs h rfl rfl ?_)
                  clear h a w; intro a w h
                  first
                    | (refine wvg h (r_bin h rfl rfl (B.gtr_int)) rfl rfl ?_)
                    | (refine wvs h rfl rfl ?_)
                  clear h a w; intro a w h
                  first
                    | (refine wv h (r_pick_true h rfl rfl) rfl ?_)
                    | (refine wv h (r_pick_false h rfl rfl) rfl ?_)
                    | (refine wv h (r_pick h rfl rfl rfl) rfl ?_)
                  clear h a w; intro a w h
                  refine wnil (c_then ?_)
                  rw [q2]
                  exact ⟨(), (h.drop 1).keep [0, 9, 10, 11, 61], trivial⟩
              ·
                clear h a w; intro z a w hz h
                refine c_condD h rfl (fun ht6 => ?_) (fun ht6 => ?_)
                ·
                  as_aux_lemma =>
                    refine c_seq (c_region ?_)
                    refine wv h (r_assign h rfl) rfl ?_
                    clear h a w; intro a w h
                    refine wnil (c_then ?_)
                    refine c_ret ?_
                    refine ret1 h rfl rfl ⟨false, rfl, h.2, ?_⟩
                    refine ⟨fun hh => (by cases hh), fun hR => ?_⟩
                    have := (hR.1 e hmem).2.2
                    omega
                ·
                  refine c_skip ?_
                  refine b_normal ?_
                  refine c_then ?_
                  refine c_region ?_
                  refine wv h (r_bin h rfl rfl (B.add_i64 (by omega) (by omega))) rfl ?_
                  clear h a w; intro a w h
                  refine wv h (r_move h rfl) rfl ?_
                  clear h a w; intro a w h
                  refine wnil ?_
                  refine ⟨i + 1, h.keep [0, 9, 10, 11], ⟨?_, ?_⟩, ?_⟩
                  · show i + 1 ≤ l.length; omega
                  · intro m hm
                    rw [hts, List.mem_append] at hm
                    rcases hm with hm | hm
                    · exact hx2 m hm
                    · rw [List.mem_singleton] at hm; subst hm; exact ⟨hnums, htxt, by omega, by omega⟩
                  · show l.length - (i + 1) < l.length - i; omega
    ·
      have hil : i = l.length := by omega
      subst hil
      rw [List.take_length] at hx2
      refine c_exit ?_
      refine e_then ?_
      refine e_then ?_
      refine e_here ?_
      refine c_then ?_
      refine c_meet h (X := Bool) (fun b => [(2, .bool b)]) (fun _ => F) (fun b => b = true ↔ RightC l) ?_ ?_
      ·
        have hcs : (decide ((l.length : Int) ≤ 40) = true ∧ l.length ≤ 40) ∨ (decide ((l.length : Int) ≤ 40) = false ∧ ¬ l.length ≤ 40) := by
          by_cases h40 : l.length ≤ 40
          · left; exact ⟨decide_eq_true (by omega), h40⟩
          · right; exact ⟨decide_eq_false (by omega), h40⟩
        rcases hcs with ⟨q1, q2⟩ | ⟨q1, q2⟩
        all_goals
          refine c_region ?_
          refine wv h (r_move h rfl) rfl ?_
          clear h a w; intro a w h
          refine wv h (r_lenV h rfl K.u_api_Chart hv) rfl ?_
          clear h a w; intro a w h
          refine wv h (r_bin h rfl rfl (B.leq_int)) rfl ?_
          clear h a w; intro a w h
          rw [q1] at h
          refine wv h (r_move h rfl) rfl ?_
          clear h a w; intro a w h
          first
            | (refine wvg h (r_move h rfl) rfl rfl ?_)
            | (refine wvs h rfl rfl ?_)
          clear h a w; intro a w h
          first
            | (refine wvsx h rfl rfl ?_)
            | (refine wlg h rfl rfl (op_call h rfl K.go_chart_Rising (chart_rising s _ v l _ hv h.2) rfl ?_))
          clear h a w; intro x a w hx h
          first
            | (refine wv h (r_pick_true h rfl rfl) rfl ?_)
            | (refine wv h (r_pick_false h rfl rfl) rfl ?_)
            | (refine wv h (r_pick h rfl rfl rfl) rfl ?_)
          clear h a w; intro a w h
          refine wv h (r_assign h rfl) rfl ?_
          clear h a w; intro a w h
          refine wnil (c_then ?_)
          first
            | (refine ⟨x, h.keep [2], ?_⟩; exact ⟨fun hh => ⟨hx2, q2, hx.1 hh⟩, fun hR => hx.2 hR.2.2⟩)
            | (refine ⟨false, h.keep [2], ?_⟩; exact ⟨fun hh => (by cases hh), fun hR => absurd hR.2.1 q2⟩)
      ·
        clear h a w; intro z a w hz h
        refine c_ret ?_
        exact ret1 h rfl rfl ⟨z, rfl, h.2, hz⟩
end Go.Proofs.K
