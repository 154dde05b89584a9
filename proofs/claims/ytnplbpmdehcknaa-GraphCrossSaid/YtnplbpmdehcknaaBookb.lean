/- The contracts of a book of commits (the reference's): all commits from some on. -/
import Derived.Test.YtnplbpmdehcknaaBook
import Derived.Test.YtnplbpmdehcknaaGraphPure
set_option linter.unusedVariables false
set_option linter.unusedSimpArgs false
set_option maxRecDepth 10000
set_option maxHeartbeats 2000000
namespace Go.Proofs.K
open Go.Sl
attribute [local irreducible] Go.Sl.Own Go.Sl.Blk Go.Sl.Sep Go.Sl.Ex Go.Sl.Fact
/-- a row behind a row of one's own -/
theorem op_appendR {P : Program} {n : Nat} {s w : World} {a : Act} {E : List (Nat × Value)} {L : List HItem} {Q : Exit → Act → World → Prop} {next : Act → World → Prop} {d : Nat} {ty : TypeId} {pos : String} {aft : Array Edge} {g : Option (Nat × Bool)}
    {α : Type} {size : Nat} {cells : α → List Value} [Row cells size] (h : St n s a w E L) {t el : TypeId} {x y : Operand} {bytes : Nat} {z v vx : Value} {l m : List α} (hx : ev E x = some v) (hy : ev E y = some vx) (hu : P.underlying t = some (.slice el)) (hs : tsz P el = some (size, bytes)) (hz : tzero P el = some z)
    (hzs : z.cells.size = size) (hby : Nat.ble bytes 4096 = true) (i : Nat) (hi : L[i]? = some (OwnM size cells v l)) (hv : Views L size vx m.length (m.flatMap cells)) (hN : l.length + m.length ≤ 4294967296)
    (hd : Nat.blt d n = true) (k : ∀ v' a w, St n s a w ((d, v') :: E) (L.set i (OwnM size cells v' (l ++ m))) → next a w) :
    (Oper.mk (some d) (.call { callee := .builtin .append, args := #[x, y], argTypes := #[t, t] }) ty pos aft g).wp P a w next Q := by
  refine op_append (xs := l.flatMap cells) (N := l.length) h hx hy hu hs hz hzs hby i hi (Src.views hu hv h.2) (by
    intro u hu
    obtain ⟨x, _, hx⟩ := List.mem_flatMap.1 hu
    exact Row.one (size := size) x u hx) hN hd (fun v' a w h => k v' a w ?_)
  have e : Own size v' (l.length + m.length) (l.flatMap cells ++ m.flatMap cells) = OwnM size cells v' (l ++ m) := OwnM_eq (by simp) (by simp)
  rw [e] at h; exact h

theorem book_All (s w : World) (b : Nat) (v : Value) (fr : List Key) (nv : Value) (xs : List NodeV) (F : List HItem) (hv : Views F 32 v fr.length (fr.flatMap cellsA)) (hfl : fr.length ≤ 100000)
    (hB : BookV F b nv xs) (hl : xs.length ≤ 4000000) (hp : ∀ x ∈ xs, x.pars.length ≤ 99) (hs : Sat s w F) :
    Calls P n_ref18_Book_All #[bp b, v] w (Ret s (fun v' : Value => v') (fun v' => OwnM 32 cellsA v' (rAll (nsOf xs) 3000 [] fr) :: F) (fun _ => True)) := by
  refine enter K.fn_ref18_Book_All rfl K.nt_ref18_Book_All rfl hs ?_
  clear hs w; intro a w h
  refine c_seq (c_region ?_)
  refine wv h (r_assign h rfl) rfl ?_
  clear h a w; intro a w h
  refine wnil (c_then ?_)
  refine c_seq (c_region ?_)
  refine wv h (r_assign h rfl) rfl ?_
  clear h a w; intro a w h
  refine wnil (c_then ?_)
  refine c_seq (c_region ?_)
  refine wv h (r_move h rfl) rfl ?_
  clear h a w; intro a w h
  refine wl rfl (op_appendnR (cells := cellsA) (l := fr) h rfl rfl K.u_S_api_Key K.sz_api_Key K.z_api_Key rfl rfl hv (by omega) rfl ?_)
  clear h a w; intro v6 a w h
  refine wv h (r_assign h rfl) rfl ?_
  clear h a w; intro a w h
  refine wnil (c_then ?_)
  refine c_seq ?_
  refine c_seq (c_region ?_)
  refine wv h (r_assign h rfl) rfl ?_
  clear h a w; intro a w h
  refine wnil (c_then ?_)
  refine c_block ?_
  replace h := h.addNilM (size := 32) (cells := cellsA (n := 32))
  refine c_loop (X := Nat × List Key × List Key × Value × Value) (fun z => [(0, bp b), (5, z.2.2.2.1), (6, z.2.2.2.2), (7, .int .i64 (z.1 : Int))]) (fun z => OwnM 32 cellsA z.2.2.2.1 z.2.1 :: OwnM 32 cellsA z.2.2.2.2 z.2.2.1 :: F)
    (fun z => z.1 ≤ z.2.2.1.length ∧ z.2.2.1.length ≤ 100000 + 99 * z.1 ∧ z.2.1.length ≤ z.1 ∧ z.1 ≤ 3000 ∧ rAll (nsOf xs) 3000 [] fr = rAll (nsOf xs) (3000 - z.1) z.2.1 (z.2.2.1.drop z.1)) (fun z => 3000 - z.1) (0, [], fr, .slice none 0 0, v6)
    (h.keep [0, 5, 6, 7]) ⟨Nat.zero_le _, by simp; omega, Nat.le_refl _, by omega, rfl⟩ ?_
  clear h a w; intro z a w hz h
  obtain ⟨i, l, wait, lv, uv⟩ := z
  obtain ⟨h1, h2, h3, h4, h5⟩ := hz
  simp only at h1 h2 h3 h4 h5 h
  as_aux_lemma =>
   refine c_seq ?_
   refine c_seq (c_region ?_)
   refine wv h (r_move h rfl) rfl ?_
   clear h a w; intro a w h
   refine wv h (r_move h rfl) rfl ?_
   clear h a w; intro a w h
   refine wv h (r_lenV h rfl K.u_S_api_Key (by first | exact Views.own 0 rfl | exact Views.own 1 rfl | exact Views.own 2 rfl | exact Views.own 3 rfl | exact Views.own 4 rfl | exact Views.own 5 rfl | assumption | exact Views.of_drop 1 (by assumption) | exact Views.of_drop 2 (by assumption) | exact Views.of_drop 3 (by assumption) | exact Views.of_drop 4 (by assumption) | exact Views.of_drop 5 (by assumption) | exact Views.of_drop 6 (by assumption) | exact Views.of_drop 7 (by assumption) | exact Views.of_drop 8 (by assumption) | exact Views.of_drop 9 (by assumption) | exact Views.of_drop 10 (by assumption) | exact Views.of_drop 11 (by assumption) | exact Views.of_drop 12 (by assumption))) rfl ?_
   clear h a w; intro a w h
   refine wv h (r_bin h rfl rfl (B.lss_int)) rfl ?_
   clear h a w; intro a w h
   refine wv h (r_move h rfl) rfl ?_
   clear h a w; intro a w h
   refine wvG h (by first | exact .t rfl | exact .f rfl | exact .gt rfl | exact .gf rfl) (fun hg => by (try simp only [↓gval_on hg, ↓gval_and hg] at h); (have hg2 := hg; (try simp only [Bool.and_eq_true, Bool.or_eq_true, Bool.not_eq_true', decide_eq_true_eq, decide_eq_false_iff_not] at hg2)); first | exact r_move h rfl) rfl ?_
   clear h a w; intro a w h
   refine wvG h (by first | exact .t rfl | exact .f rfl | exact .gt rfl | exact .gf rfl) (fun hg => by (try simp only [↓gval_on hg, ↓gval_and hg] at h); (have hg2 := hg; (try simp only [Bool.and_eq_true, Bool.or_eq_true, Bool.not_eq_true', decide_eq_true_eq, decide_eq_false_iff_not] at hg2)); first | exact r_bin h rfl rfl (B.lss_int)) rfl ?_
   clear h a w; intro a w h
   first
      | (refine wv h (r_pickA h rfl rfl rfl) rfl ?_)
      | (refine wv h (r_pickO h rfl rfl rfl) rfl ?_)
      | (refine wv h (r_pick_true h rfl rfl) rfl ?_)
      | (refine wv h (r_pick_false h rfl rfl) rfl ?_)
      | (refine wv h (r_pick h rfl rfl rfl) rfl ?_)
   clear h a w; intro a w h
   refine wnil (c_then ?_)
   refine c_condP (p := i < wait.length ∧ i < 3000) h rfl (by simp; intro _; omega) (fun ht1 => ?_) (fun ht1 => ?_)
   ·
    obtain ⟨hlt, hlt2⟩ := ht1
    obtain ⟨y, hy⟩ : ∃ y, wait[i]? = some y := ⟨_, List.getElem?_eq_getElem hlt⟩
    have hstep : rAll (nsOf xs) (3000 - i) l (wait.drop i) = if y ∈ l then rAll (nsOf xs) (3000 - (i + 1)) l (wait.drop (i + 1)) else rAll (nsOf xs) (3000 - (i + 1)) (l ++ [y]) (wait.drop (i + 1) ++ (Sl.look (nsOf xs) y).getD []) := by
      obtain ⟨hlt', rfl⟩ := List.getElem?_eq_some_iff.1 hy
      rw [List.drop_eq_getElem_cons hlt', show 3000 - i = (3000 - (i + 1)) + 1 by omega, rAll]
    rw [hstep] at h5
    refine c_skip ?_
    refine c_then ?_
    refine c_seq ?_
    refine c_block ?_
    refine c_seq (c_region ?_)
    refine wv h (r_assign h rfl) rfl ?_
    clear h a w; intro a w h
    refine wnil (c_then ?_)
    refine c_seq ?_
    refine c_seq (c_region ?_)
    refine wv h (r_assign h rfl) rfl ?_
    clear h a w; intro a w h
    refine wnil (c_then ?_)
    refine c_block ?_
    refine c_loop (X := Nat) (fun k => [(0, bp b), (5, lv), (6, uv), (7, .int .i64 (i : Int)), (8, .bool (decide (y ∈ l.take k))), (9, .int .i64 (k : Int))]) (fun _ => OwnM 32 cellsA lv l :: OwnM 32 cellsA uv wait :: F) (fun k => k ≤ l.length) (fun k => l.length - k) 0
      (by
        have q := h.keep [0, 5, 6, 7, 8, 9]
        have e : decide (y ∈ l.take 0) = false := by simp
        show St 69 s a w [(0, _), (5, _), (6, _), (7, _), (8, .bool (decide (y ∈ l.take 0))), (9, _)] _
        rw [e]; exact q) (Nat.zero_le _) ?_
    clear h a w; intro k a w hk h
    as_aux_lemma =>
     refine c_seq ?_
     refine c_seq (c_region ?_)
     refine wv h (r_move h rfl) rfl ?_
     clear h a w; intro a w h
     refine wv h (r_move h rfl) rfl ?_
     clear h a w; intro a w h
     refine wv h (r_lenV h rfl K.u_S_api_Key (by first | exact Views.own 0 rfl | exact Views.own 1 rfl | exact Views.own 2 rfl | exact Views.own 3 rfl | exact Views.own 4 rfl | exact Views.own 5 rfl | assumption | exact Views.of_drop 1 (by assumption) | exact Views.of_drop 2 (by assumption) | exact Views.of_drop 3 (by assumption) | exact Views.of_drop 4 (by assumption) | exact Views.of_drop 5 (by assumption) | exact Views.of_drop 6 (by assumption) | exact Views.of_drop 7 (by assumption) | exact Views.of_drop 8 (by assumption) | exact Views.of_drop 9 (by assumption) | exact Views.of_drop 10 (by assumption) | exact Views.of_drop 11 (by assumption) | exact Views.of_drop 12 (by assumption))) rfl ?_
     clear h a w; intro a w h
     refine wv h (r_bin h rfl rfl (B.lss_int)) rfl ?_
     clear h a w; intro a w h
     refine wnil (c_then ?_)
     first
      | refine c_condD h rfl (fun ht2 => ?_) (fun ht2 => ?_)
      | refine c_condP h rfl (by first | (simp only [Bool.and_eq_true, Bool.or_eq_true, Bool.not_eq_true', decide_eq_true_eq, decide_eq_false_iff_not, ne_eq, Bool.not_eq_eq_eq_not, Bool.not_true, beq_iff_eq, bne_iff_ne]; exact Iff.rfl) | exact Iff.rfl) (fun ht2 => ?_) (fun ht2 => ?_)
     ·
      have hkl : k < l.length := by omega
      obtain ⟨z, hz⟩ : ∃ z, l[k]? = some z := ⟨_, List.getElem?_eq_getElem hkl⟩
      refine c_skip ?_
      refine c_then ?_
      refine c_seq ?_
      refine c_block ?_
      refine c_draw K.mixed (by kernel_rfl) h ?_
      clear h a w; intro a hE
      refine qv hE (fun w hw => r_move ⟨hE, hw⟩ rfl) rfl ?_
      clear hE a; intro a hE
      refine qv hE (fun w hw => r_move ⟨hE, hw⟩ rfl) rfl ?_
      clear hE a; intro a hE
      refine qvG hE (by first | exact .t rfl | exact .f rfl | exact .gt rfl | exact .gf rfl) (fun hg w hw => by (try simp only [↓gval_on hg, ↓gval_and hg] at hE); (have hg2 := hg; (try simp only [Bool.and_eq_true, Bool.or_eq_true, Bool.not_eq_true', decide_eq_true_eq, decide_eq_false_iff_not] at hg2)); first | exact r_move ⟨hE, hw⟩ rfl) rfl ?_
      clear hE a; intro a hE
      refine qvG hE (by first | exact .t rfl | exact .f rfl | exact .gt rfl | exact .gf rfl) (fun hg w hw => by (try simp only [↓gval_on hg, ↓gval_and hg] at hE); (have hg2 := hg; (try simp only [Bool.and_eq_true, Bool.or_eq_true, Bool.not_eq_true', decide_eq_true_eq, decide_eq_false_iff_not] at hg2)); first | exact r_move ⟨hE, hw⟩ rfl) rfl ?_
      clear hE a; intro a hE
      refine qvG hE (by first | exact .t rfl | exact .f rfl | exact .gt rfl | exact .gf rfl) (fun hg w hw => by (try simp only [↓gval_on hg, ↓gval_and hg] at hE); (have hg2 := hg; (try simp only [Bool.and_eq_true, Bool.or_eq_true, Bool.not_eq_true', decide_eq_true_eq, decide_eq_false_iff_not] at hg2)); first | exact r_elP ⟨hE, hw⟩ rfl rfl K.u_S_api_Key K.sz_api_Key (by first | exact Views.own 0 rfl | exact Views.own 1 rfl | exact Views.own 2 rfl | exact Views.own 3 rfl | exact Views.own 4 rfl | exact Views.own 5 rfl | assumption | exact Views.of_drop 1 (by assumption) | exact Views.of_drop 2 (by assumption) | exact Views.of_drop 3 (by assumption) | exact Views.of_drop 4 (by assumption) | exact Views.of_drop 5 (by assumption) | exact Views.of_drop 6 (by assumption) | exact Views.of_drop 7 (by assumption) | exact Views.of_drop 8 (by assumption) | exact Views.of_drop 9 (by assumption) | exact Views.of_drop 10 (by assumption) | exact Views.of_drop 11 (by assumption) | exact Views.of_drop 12 (by assumption)) (by first | omega | (simp; done)) (by first | omega | (simp only [List.length_cons, List.length_nil]; omega) | (simp; done) | (simp; omega))) rfl ?_
      clear hE a; intro a hE
      refine qvG hE (by first | exact .t rfl | exact .f rfl | exact .gt rfl | exact .gf rfl) (fun hg w hw => by (try simp only [↓gval_on hg, ↓gval_and hg] at hE); exact r_elM (cells := cellsA) ⟨hE, hw⟩ rfl K.u_api_Key rfl K.sz_api_Key rfl (Views.own 0 rfl) hz) rfl ?_
      clear hE a; intro a hE
      refine qvG hE (by first | exact .t rfl | exact .f rfl | exact .gt rfl | exact .gf rfl) (fun hg w hw => by (try simp only [↓gval_on hg, ↓gval_and hg] at hE); (have hg2 := hg; (try simp only [Bool.and_eq_true, Bool.or_eq_true, Bool.not_eq_true', decide_eq_true_eq, decide_eq_false_iff_not] at hg2)); first | exact r_move ⟨hE, hw⟩ rfl) rfl ?_
      clear hE a; intro a hE
      refine qvG hE (by first | exact .t rfl | exact .f rfl | exact .gt rfl | exact .gf rfl) (fun hg w hw => by (try simp only [↓gval_on hg, ↓gval_and hg] at hE); (have hg2 := hg; (try simp only [Bool.and_eq_true, Bool.or_eq_true, Bool.not_eq_true', decide_eq_true_eq, decide_eq_false_iff_not] at hg2)); first | exact r_move ⟨hE, hw⟩ rfl) rfl ?_
      clear hE a; intro a hE
      refine qvG hE (by first | exact .t rfl | exact .f rfl | exact .gt rfl | exact .gf rfl) (fun hg w hw => by (try simp only [↓gval_on hg, ↓gval_and hg] at hE); (have hg2 := hg; (try simp only [Bool.and_eq_true, Bool.or_eq_true, Bool.not_eq_true', decide_eq_true_eq, decide_eq_false_iff_not] at hg2)); first | exact r_elP ⟨hE, hw⟩ rfl rfl K.u_S_api_Key K.sz_api_Key (by first | exact Views.own 0 rfl | exact Views.own 1 rfl | exact Views.own 2 rfl | exact Views.own 3 rfl | exact Views.own 4 rfl | exact Views.own 5 rfl | assumption | exact Views.of_drop 1 (by assumption) | exact Views.of_drop 2 (by assumption) | exact Views.of_drop 3 (by assumption) | exact Views.of_drop 4 (by assumption) | exact Views.of_drop 5 (by assumption) | exact Views.of_drop 6 (by assumption) | exact Views.of_drop 7 (by assumption) | exact Views.of_drop 8 (by assumption) | exact Views.of_drop 9 (by assumption) | exact Views.of_drop 10 (by assumption) | exact Views.of_drop 11 (by assumption) | exact Views.of_drop 12 (by assumption)) (by first | omega | (simp; done)) (by first | omega | (simp only [List.length_cons, List.length_nil]; omega) | (simp; done) | (simp; omega))) rfl ?_
      clear hE a; intro a hE
      refine qvG hE (by first | exact .t rfl | exact .f rfl | exact .gt rfl | exact .gf rfl) (fun hg w hw => by (try simp only [↓gval_on hg, ↓gval_and hg] at hE); exact r_elM (cells := cellsA) ⟨hE, hw⟩ rfl K.u_api_Key rfl K.sz_api_Key rfl (Views.own 1 rfl) hy) rfl ?_
      clear hE a; intro a hE
      refine qvG hE (by first | exact .t rfl | exact .f rfl | exact .gt rfl | exact .gf rfl) (fun hg w hw => by (try simp only [↓gval_on hg, ↓gval_and hg] at hE); (have hg2 := hg; (try simp only [Bool.and_eq_true, Bool.or_eq_true, Bool.not_eq_true', decide_eq_true_eq, decide_eq_false_iff_not] at hg2)); first | exact r_arreq ⟨hE, hw⟩ rfl rfl K.u_api_Key K.u_uint8 K.sz_uint8 (by kernel_rfl) (by first | rfl | assumption | (simp; done) | (simp; omega) | omega) (by first | rfl | assumption | (simp; done) | (simp; omega) | omega)) rfl ?_
      clear hE a; intro a hE
      first
            | (refine qv hE (fun w hw => r_pickA ⟨hE, hw⟩ rfl rfl rfl) rfl ?_)
            | (refine qv hE (fun w hw => r_pickO ⟨hE, hw⟩ rfl rfl rfl) rfl ?_)
            | (refine qv hE (fun w hw => r_pick_true ⟨hE, hw⟩ rfl rfl) rfl ?_)
            | (refine qv hE (fun w hw => r_pick_false ⟨hE, hw⟩ rfl rfl) rfl ?_)
            | (refine qv hE (fun w hw => r_pick ⟨hE, hw⟩ rfl rfl rfl) rfl ?_)
      clear hE a; intro a hE
      refine qv hE (fun w hw => r_assign ⟨hE, hw⟩ rfl) rfl ?_
      clear hE a; intro a hE
      refine qnil hE ?_
      clear hE a; intro a w h
      refine b_normal ?_
      refine c_then ?_
      refine c_region ?_
      refine wv h (r_move h rfl) rfl ?_
      clear h a w; intro a w h
      refine wv h (r_bin h rfl rfl (B.add_i64 (by omega) (by omega))) rfl ?_
      clear h a w; intro a w h
      refine wv h (r_assign h rfl) rfl ?_
      clear h a w; intro a w h
      refine wnil ?_
      have e : (decide (y ∈ l.take k) || decide (z.val = y.val)) = decide (y ∈ l.take (k + 1)) := by
        rw [List.take_add_one, hz]
        by_cases q : z = y
        · subst q; simp
        · have q2 : ¬ z.val = y.val := fun e => q (BA.ext' e)
          have q3 : ¬ y = z := fun e => q e.symm
          simp [q2, q3]
      refine ⟨k + 1, ?_, by omega, by omega⟩
      rw [← e]
      exact h.keep [0, 5, 6, 7, 8, 9]
     ·
      have hkl : k = l.length := by omega
      rw [hkl, List.take_length] at h
      refine c_exit ?_
      refine e_then ?_
      refine e_then ?_
      refine e_here ?_
      refine c_then ?_
      refine c_seq ?_
      refine c_seq (c_region ?_)
      refine wv h (r_move h rfl) rfl ?_
      clear h a w; intro a w h
      refine wnil (c_then ?_)
      refine c_condP (p := y ∈ l) h rfl (by simp) (fun ht3 => ?_) (fun ht3 => ?_)
      ·
       rw [if_pos ht3] at h5
       as_aux_lemma =>
        refine c_exit ?_
        refine e_then ?_
        refine e_here ?_
        refine c_then ?_
        refine c_region ?_
        refine wv h (r_move h rfl) rfl ?_
        clear h a w; intro a w h
        refine wv h (r_bin h rfl rfl (B.add_i64 (by omega) (by omega))) rfl ?_
        clear h a w; intro a w h
        refine wv h (r_assign h rfl) rfl ?_
        clear h a w; intro a w h
        refine wnil ?_
        exact ⟨(i + 1, l, wait, lv, uv), h.keep [0, 5, 6, 7], ⟨hlt, by show wait.length ≤ 100000 + 99 * (i + 1); omega, by show l.length ≤ i + 1; omega, by show i + 1 ≤ 3000; omega, h5⟩, by show 3000 - (i + 1) < 3000 - i; omega⟩
      ·
       rw [if_neg ht3, look_find] at h5
       refine c_skip ?_
       refine c_then ?_
       refine c_seq (c_region ?_)
       refine wv h (r_move h rfl) rfl ?_
       clear h a w; intro a w h
       refine wv h (r_move h rfl) rfl ?_
       clear h a w; intro a w h
       refine wv h (r_move h rfl) rfl ?_
       clear h a w; intro a w h
       refine wv h (r_elP h rfl rfl K.u_S_api_Key K.sz_api_Key (by first | exact Views.own 0 rfl | exact Views.own 1 rfl | exact Views.own 2 rfl | exact Views.own 3 rfl | exact Views.own 4 rfl | exact Views.own 5 rfl | assumption | exact Views.of_drop 1 (by assumption) | exact Views.of_drop 2 (by assumption) | exact Views.of_drop 3 (by assumption) | exact Views.of_drop 4 (by assumption) | exact Views.of_drop 5 (by assumption) | exact Views.of_drop 6 (by assumption) | exact Views.of_drop 7 (by assumption) | exact Views.of_drop 8 (by assumption) | exact Views.of_drop 9 (by assumption) | exact Views.of_drop 10 (by assumption) | exact Views.of_drop 11 (by assumption) | exact Views.of_drop 12 (by assumption)) (by first | omega | (simp; done)) (by first | omega | (simp only [List.length_cons, List.length_nil]; omega) | (simp; done) | (simp; omega))) rfl ?_
       clear h a w; intro a w h
       refine wv h (r_elM (cells := cellsA) h rfl K.u_api_Key rfl K.sz_api_Key rfl (Views.own 1 rfl) hy) rfl ?_
       clear h a w; intro a w h
       refine wl rfl (op_build1 h K.u_S_api_Key K.sz_api_Key K.z_api_Key rfl rfl rfl (by first | exact Row.len _ | rfl | assumption | (simp; done) | (simp; omega) | omega) rfl ?_)
       clear h a w; intro b47 a w h
       first
              | (refine wl rfl (op_appendR1 (cells := cellsA) h rfl rfl K.u_S_api_Key K.sz_api_Key K.z_api_Key rfl rfl 0 rfl (by first | omega | (simp only [List.length_cons, List.length_nil]; omega) | (simp; done) | (simp; omega)) rfl ?_))
              | (refine wl rfl (op_appendR1 (cells := cellsA) h rfl rfl K.u_S_api_Key K.sz_api_Key K.z_api_Key rfl rfl 1 rfl (by first | omega | (simp only [List.length_cons, List.length_nil]; omega) | (simp; done) | (simp; omega)) rfl ?_))
              | (refine wl rfl (op_appendR1 (cells := cellsA) h rfl rfl K.u_S_api_Key K.sz_api_Key K.z_api_Key rfl rfl 2 rfl (by first | omega | (simp only [List.length_cons, List.length_nil]; omega) | (simp; done) | (simp; omega)) rfl ?_))
              | (refine wl rfl (op_appendR1 (cells := cellsA) h rfl rfl K.u_S_api_Key K.sz_api_Key K.z_api_Key rfl rfl 3 rfl (by first | omega | (simp only [List.length_cons, List.length_nil]; omega) | (simp; done) | (simp; omega)) rfl ?_))
              | (refine wl rfl (op_appendR1 (cells := cellsA) h rfl rfl K.u_S_api_Key K.sz_api_Key K.z_api_Key rfl rfl 4 rfl (by first | omega | (simp only [List.length_cons, List.length_nil]; omega) | (simp; done) | (simp; omega)) rfl ?_))
              | (refine wl rfl (op_appendR1 (cells := cellsA) h rfl rfl K.u_S_api_Key K.sz_api_Key K.z_api_Key rfl rfl 5 rfl (by first | omega | (simp only [List.length_cons, List.length_nil]; omega) | (simp; done) | (simp; omega)) rfl ?_))
       clear h a w; intro v48 a w h
       (try simp only [List.set_cons_zero, List.set_cons_succ] at h)
       refine wv h (r_assign h rfl) rfl ?_
       clear h a w; intro a w h
       refine wnil (c_then ?_)
       refine c_seq (c_region ?_)
       refine wv h (r_move h rfl) rfl ?_
       clear h a w; intro a w h
       refine wv h (r_move h rfl) rfl ?_
       clear h a w; intro a w h
       refine wv h (r_move h rfl) rfl ?_
       clear h a w; intro a w h
       refine wv h (r_elP h rfl rfl K.u_S_api_Key K.sz_api_Key (by first | exact Views.own 0 rfl | exact Views.own 1 rfl | exact Views.own 2 rfl | exact Views.own 3 rfl | exact Views.own 4 rfl | exact Views.own 5 rfl | assumption | exact Views.of_drop 1 (by assumption) | exact Views.of_drop 2 (by assumption) | exact Views.of_drop 3 (by assumption) | exact Views.of_drop 4 (by assumption) | exact Views.of_drop 5 (by assumption) | exact Views.of_drop 6 (by assumption) | exact Views.of_drop 7 (by assumption) | exact Views.of_drop 8 (by assumption) | exact Views.of_drop 9 (by assumption) | exact Views.of_drop 10 (by assumption) | exact Views.of_drop 11 (by assumption) | exact Views.of_drop 12 (by assumption)) (by first | omega | (simp; done)) (by first | omega | (simp only [List.length_cons, List.length_nil]; omega) | (simp; done) | (simp; omega))) rfl ?_
       clear h a w; intro a w h
       refine wv h (r_elM (cells := cellsA) h rfl K.u_api_Key rfl K.sz_api_Key rfl (Views.own 1 rfl) hy) rfl ?_
       clear h a w; intro a w h
       refine wl rfl (op_call h rfl K.go_ref18_Book_Node (book_Node s _ b nv xs y _ (by exact BookV.of_drop 2 hB) hl h.2) rfl ?_)
       clear h a w; intro z a w hz h
       (try simp only [List.set_cons_zero, List.set_cons_succ] at h)
       refine wv h (r_assign h rfl) rfl ?_
       clear h a w; intro a w h
       refine wnil (c_then ?_)
       refine c_seq (c_region ?_)
       refine wv h (r_move h rfl) rfl ?_
       clear h a w; intro a w h
       refine wv h (r_bin h rfl rfl (B.geq_int)) rfl ?_
       clear h a w; intro a w h
       refine wnil (c_then ?_)
       first
        | refine c_condD h rfl (fun ht4 => ?_) (fun ht4 => ?_)
        | refine c_condP h rfl (by first | (simp only [Bool.and_eq_true, Bool.or_eq_true, Bool.not_eq_true', decide_eq_true_eq, decide_eq_false_iff_not, ne_eq, Bool.not_eq_eq_eq_not, Bool.not_true, beq_iff_eq, bne_iff_ne]; exact Iff.rfl) | exact Iff.rfl) (fun ht4 => ?_) (fun ht4 => ?_)
       ·
        obtain ⟨x, hf⟩ : ∃ x, findN xs y = some x := by
          rcases hf : findN xs y with _ | x
          · rw [nodeIx_none xs y 0 hf] at ht4; simp at ht4
          · exact ⟨x, rfl⟩
        obtain ⟨j, hj1, hj2⟩ := nodeIx_some xs y 0 x hf
        rw [Nat.zero_add] at hj1
        rw [hj1] at h
        have hjl : j < xs.length := (List.getElem?_eq_some_iff.1 hj2).1
        obtain ⟨hmem, hkey⟩ := findN_mem hf
        have hpl := hp x hmem
        have hB2 : BookV (OwnM 32 cellsA v48 (l ++ [y]) :: OwnM 32 cellsA uv wait :: F) b nv xs := BookV.of_drop 2 hB
        have hc := hB2.1
        have hn := hB2.2.1
        have hpv := hB2.2.2 x hmem
        rw [hf] at h5
        as_aux_lemma =>
         refine c_region ?_
         refine wv h (r_move h rfl) rfl ?_
         clear h a w; intro a w h
         refine wv h (r_move h rfl) rfl ?_
         clear h a w; intro a w h
         refine wv h (r_nilCheck h rfl) rfl ?_
         clear h a w; intro a w h
         refine wv h (r_fieldAddr0 h rfl K.u_interleafref18_Book rfl K.sz_S_interleafref18_Node rfl rfl) rfl ?_
         clear h a w; intro a w h
         first
                  | (refine wv h (r_ldN h rfl K.u_S_interleafref18_Node rfl 0 rfl rfl) rfl ?_)
                  | (refine wv h (r_ldN h rfl K.u_S_interleafref18_Node rfl 1 rfl rfl) rfl ?_)
                  | (refine wv h (r_ldN h rfl K.u_S_interleafref18_Node rfl 2 rfl rfl) rfl ?_)
                  | (refine wv h (r_ldN h rfl K.u_S_interleafref18_Node rfl 3 rfl rfl) rfl ?_)
                  | (refine wv h (r_ldN h rfl K.u_S_interleafref18_Node rfl 4 rfl rfl) rfl ?_)
                  | (refine wv h (r_ldN h rfl K.u_S_interleafref18_Node rfl 5 rfl rfl) rfl ?_)
                  | (refine wv h (r_ldN h rfl K.u_S_interleafref18_Node rfl 6 rfl rfl) rfl ?_)
                  | (refine wv h (r_ldC (o := 0) h rfl K.u_S_interleafref18_Node rfl 0 rfl) rfl ?_)
                  | (refine wv h (r_ldC (o := 0) h rfl K.u_S_interleafref18_Node rfl 1 rfl) rfl ?_)
                  | (refine wv h (r_ldC (o := 0) h rfl K.u_S_interleafref18_Node rfl 2 rfl) rfl ?_)
                  | (refine wv h (r_ldC (o := 0) h rfl K.u_S_interleafref18_Node rfl 3 rfl) rfl ?_)
                  | (refine wv h (r_ldC (o := 0) h rfl K.u_S_interleafref18_Node rfl 4 rfl) rfl ?_)
                  | (refine wv h (r_ldC (o := 0) h rfl K.u_S_interleafref18_Node rfl 5 rfl) rfl ?_)
                  | (refine wv h (r_ldC (o := 0) h rfl K.u_S_interleafref18_Node rfl 6 rfl) rfl ?_)
                  | (refine wv h (r_load h rfl K.u_S_interleafref18_Node rfl 0 rfl rfl) rfl ?_)
                  | (refine wv h (r_load h rfl K.u_S_interleafref18_Node rfl 1 rfl rfl) rfl ?_)
                  | (refine wv h (r_load h rfl K.u_S_interleafref18_Node rfl 2 rfl rfl) rfl ?_)
                  | (refine wv h (r_load h rfl K.u_S_interleafref18_Node rfl 3 rfl rfl) rfl ?_)
                  | (refine wv h (r_load h rfl K.u_S_interleafref18_Node rfl 4 rfl rfl) rfl ?_)
                  | (refine wv h (r_load h rfl K.u_S_interleafref18_Node rfl 5 rfl rfl) rfl ?_)
                  | (refine wv h (r_load1 h rfl K.u_S_interleafref18_Node rfl (by assumption)) rfl ?_)
         clear h a w; intro a w h
         refine wv h (r_move h rfl) rfl ?_
         clear h a w; intro a w h
         refine wv h (r_elP h rfl rfl K.u_S_interleafref18_Node K.sz_interleafref18_Node hn (by omega) hjl) rfl ?_
         clear h a w; intro a w h
         refine wv h (r_elF h 32 rfl K.u_interleafref18_Node rfl K.sz_api_Commit rfl rfl hn (by omega)) rfl ?_
         clear h a w; intro a w h
         refine wv h (r_elF h 32 rfl K.u_api_Commit rfl K.sz_S_api_Key rfl rfl hn (by omega)) rfl ?_
         clear h a w; intro a w h
         rw [show elP nv (j * 67 + 32 + 32) = elP nv (j * 67 + 64) from by rw [Nat.add_assoc]] at h
         refine wv h (r_elMf (cells := cellsN) h rfl K.u_S_api_Key rfl hn hj2 (by rw [nth_eq]; exact cellsN_pv x)) rfl ?_
         clear h a w; intro a w h
         refine wl rfl (op_appendR (cells := cellsA) (m := x.pars) h rfl rfl K.u_S_api_Key K.sz_api_Key K.z_api_Key rfl rfl 1 rfl hpv (by omega) rfl ?_)
         clear h a w; intro v67 a w h
         refine wv h (r_assign h rfl) rfl ?_
         clear h a w; intro a w h
         refine wnil ?_
         refine b_normal ?_
         refine c_then ?_
         refine c_region ?_
         refine wv h (r_move h rfl) rfl ?_
         clear h a w; intro a w h
         refine wv h (r_bin h rfl rfl (B.add_i64 (by omega) (by omega))) rfl ?_
         clear h a w; intro a w h
         refine wv h (r_assign h rfl) rfl ?_
         clear h a w; intro a w h
         refine wnil ?_
         exact ⟨(i + 1, l ++ [y], wait ++ x.pars, v48, v67), h.keep [0, 5, 6, 7], ⟨by show i + 1 ≤ (wait ++ x.pars).length; simp; omega, by show (wait ++ x.pars).length ≤ 100000 + 99 * (i + 1); simp; omega, by show (l ++ [y]).length ≤ i + 1; simp; omega, by show i + 1 ≤ 3000; omega,
           by rw [h5]; show _ = rAll (nsOf xs) (3000 - (i + 1)) (l ++ [y]) ((wait ++ x.pars).drop (i + 1)); rw [List.drop_append_of_le_length (by omega)]; rfl⟩, by show 3000 - (i + 1) < 3000 - i; omega⟩
       ·
        have hf : findN xs y = none := by
          rcases hf : findN xs y with _ | x
          · rfl
          · obtain ⟨j, hj1, hj2⟩ := nodeIx_some xs y 0 x hf
            rw [hj1] at ht4; simp at ht4
        rw [hf] at h5
        refine c_skip ?_
        refine b_normal ?_
        refine c_then ?_
        refine c_region ?_
        refine wv h (r_move h rfl) rfl ?_
        clear h a w; intro a w h
        refine wv h (r_bin h rfl rfl (B.add_i64 (by omega) (by omega))) rfl ?_
        clear h a w; intro a w h
        refine wv h (r_assign h rfl) rfl ?_
        clear h a w; intro a w h
        refine wnil ?_
        exact ⟨(i + 1, l ++ [y], wait, v48, uv), h.keep [0, 5, 6, 7], ⟨by show i + 1 ≤ wait.length; omega, by show wait.length ≤ 100000 + 99 * (i + 1); omega, by show (l ++ [y]).length ≤ i + 1; simp; omega, by show i + 1 ≤ 3000; omega,
          by rw [h5]; show _ = rAll (nsOf xs) (3000 - (i + 1)) (l ++ [y]) (wait.drop (i + 1)); simp⟩, by show 3000 - (i + 1) < 3000 - i; omega⟩
   ·
    refine c_exit ?_
    refine e_then ?_
    refine e_then ?_
    refine e_here ?_
    refine c_then ?_
    refine c_seq (c_region ?_)
    refine wv h (r_move h rfl) rfl ?_
    clear h a w; intro a w h
    refine wv h (r_assign h rfl) rfl ?_
    clear h a w; intro a w h
    refine wnil (c_then ?_)
    refine c_ret ?_
    have e : rAll (nsOf xs) 3000 [] fr = l := by
      rw [h5]
      by_cases q : i < wait.length
      · have : i = 3000 := by
          rcases Nat.lt_or_ge i 3000 with q2 | q2
          · exact absurd ⟨q, q2⟩ ht1
          · omega
        rw [this]; rfl
      · rw [List.drop_eq_nil_of_le (by omega), rAll_nil]
    rw [e]
    exact ret1 h rfl rfl ⟨lv, rfl, by
      obtain ⟨q1, q2, q3, q4⟩ := (h.2.front 1 rfl).tail
      exact ⟨q1, q2, q3, q4⟩, trivial⟩
end Go.Proofs.K
