/- Stable sorting of items: by merging in place. -/
import Derived.Test.YtfhlbfalgdipiaaDoorPkSort
import Derived.Test.YtfhlbfalgdipiaaDoorKeySet
set_option linter.unusedVariables false
set_option linter.unusedSimpArgs false
set_option maxRecDepth 10000
set_option maxHeartbeats 4000000
namespace Go.Proofs.K
open Go.Sl
attribute [local irreducible] Go.Sl.Own Go.Sl.Blk Go.Sl.Sep Go.Sl.Ex Go.Sl.Fact
def SymI (v : Value) (N : Nat) : Prop := ∀ (s w : World) (P0 As Bs Q0 : List ItV) (a0 m b0 : Nat) (F : List HItem), As.length + Bs.length ≤ N → 0 < As.length → 0 < Bs.length → Srt As → Srt Bs → a0 = P0.length → m = P0.length + As.length → b0 = m + Bs.length →
  (P0 ++ As ++ Bs ++ Q0).length ≤ 4000000 → Sat s w (OwnM 33 cellsI v (P0 ++ As ++ Bs ++ Q0) :: F) →
  Calls P n_slices_symMergeCmpFunc_pack_item #[v, .int .i64 (a0 : Int), .int .i64 (m : Int), .int .i64 (b0 : Int), cmpV] w (Ret s (fun _ : Unit => .tuple #[]) (fun _ => OwnM 33 cellsI v (P0 ++ isort (As ++ Bs) ++ Q0) :: F) (fun _ => True))
theorem symStep (v : Value) (N : Nat) (ih : SymI v N) : SymI v (N + 1) := by
  intro s w P0 As Bs Q0 a0 m b0 F hN hA0 hB0 hA hB ha hm hb hl hs
  simp only [List.length_append] at hl
  refine enter K.fn_slices_symMergeCmpFunc_pack_item rfl K.nt_slices_symMergeCmpFunc_pack_item rfl hs ?_
  clear hs w; intro a w h
  unfold cmpV at h
  obtain ⟨D, hD⟩ : ∃ D, D = P0 ++ As ++ Bs ++ Q0 := ⟨_, rfl⟩
  have hDl : D.length = P0.length + As.length + Bs.length + Q0.length := by rw [hD]; simp; omega
  rw [← hD] at h
  have hsp : Shp v D.length := Sat.shp h.2 (by omega)
  have ga : ∀ i, i < As.length → D[P0.length + i]? = As[i]? := fun i hi => by
    rw [hD, List.append_assoc, List.append_assoc, List.getElem?_append_right (by omega), List.getElem?_append_left (by omega)]
    congr 1; omega
  have gb : ∀ i, i < Bs.length → D[P0.length + As.length + i]? = Bs[i]? := fun i hi => by
    rw [hD, List.append_assoc, List.getElem?_append_right (by rw [List.length_append]; omega), List.length_append, List.getElem?_append_left (by omega)]
    congr 1; omega
  refine c_seq ?_
  refine c_seq (c_region ?_)
  refine wv h (r_move h rfl) rfl ?_
  clear h a w; intro a w h
  refine wv h (r_move h rfl) rfl ?_
  clear h a w; intro a w h
  refine wv h (r_bin h rfl rfl (B.sub_i64 (by omega) (by omega))) rfl ?_
  clear h a w; intro a w h
  refine wv h (r_bin h rfl rfl (B.eql_int)) rfl ?_
  clear h a w; intro a w h
  refine wnil (c_then ?_)
  refine c_condP (p := As.length = 1) h rfl (by simp; omega) (fun ht1 => ?_) (fun ht1 => ?_)
  ·
   obtain ⟨x, hx⟩ : ∃ x, As = [x] := List.length_eq_one_iff.1 ht1
   have hDm : D = mvL P0 Bs Q0 x 0 := by rw [hD, hx, mvL]; simp
   have hgx : D[P0.length]? = some x := by rw [hDm]; exact mvL_get P0 Bs Q0 x 0 (by omega)
   as_aux_lemma =>
    refine c_seq (c_region ?_)
    refine wv h (r_move h rfl) rfl ?_
    clear h a w; intro a w h
    refine wv h (r_assign h rfl) rfl ?_
    clear h a w; intro a w h
    refine wnil (c_then ?_)
    refine c_seq (c_region ?_)
    refine wv h (r_move h rfl) rfl ?_
    clear h a w; intro a w h
    refine wv h (r_assign h rfl) rfl ?_
    clear h a w; intro a w h
    refine wnil (c_then ?_)
    refine c_seq ?_
    refine c_block ?_
    refine c_loop (X := Nat × Nat) (fun z => [(0, v), (1, .int .i64 (a0 : Int)), (2, .int .i64 (m : Int)), (3, .int .i64 (b0 : Int)), (4, .func (.func n_pack_sorted_1) #[] #[]), (10, .int .i64 ((P0.length + 1 + z.1 : Nat) : Int)), (11, .int .i64 ((P0.length + 1 + z.2 : Nat) : Int))]) (fun _ => OwnM 33 cellsI v D :: F)
      (fun z => z.1 ≤ z.2 ∧ z.2 ≤ Bs.length ∧ (∀ y, 0 < z.1 → Bs[z.1 - 1]? = some y → lt y x = true) ∧ ∀ y, Bs[z.2]? = some y → lt y x = false) (fun z => z.2 - z.1) (0, Bs.length) (by
        have q := h.keep [0, 1, 2, 3, 4, 10, 11]
        rw [show (m : Int) = ((P0.length + 1 + 0 : Nat) : Int) by omega, show (b0 : Int) = ((P0.length + 1 + Bs.length : Nat) : Int) by omega] at *
        exact q) ⟨Nat.zero_le _, Nat.le_refl _, fun _ h0 => by omega, fun y hy => by rw [List.getElem?_eq_none (by simp)] at hy; cases hy⟩ ?_
    clear h a w; intro z a w hz h
    obtain ⟨p, r⟩ := z
    obtain ⟨z1, z2, z3, z4⟩ := hz
    simp only at z1 z2 z3 z4 h
    as_aux_lemma =>
     refine c_seq ?_
     refine c_seq (c_region ?_)
     refine wv h (r_move h rfl) rfl ?_
     clear h a w; intro a w h
     refine wv h (r_move h rfl) rfl ?_
     clear h a w; intro a w h
     refine wv h (r_bin h rfl rfl (B.lss_int)) rfl ?_
     clear h a w; intro a w h
     refine wnil (c_then ?_)
     refine c_condP (p := p < r) h rfl (by simp) (fun ht2 => ?_) (fun ht2 => ?_)
     ·
      obtain ⟨c, hc⟩ : ∃ c, c = (p + r) / 2 := ⟨_, rfl⟩
      obtain ⟨y, hy⟩ : ∃ y, Bs[c]? = some y := ⟨_, List.getElem?_eq_getElem (by omega)⟩
      have hgy : D[P0.length + 1 + c]? = some y := by rw [← ht1, gb c (by omega)]; exact hy
      refine c_skip ?_
      refine c_then ?_
      refine c_block ?_
      refine c_seq (c_region ?_)
      refine wv h (r_move h rfl) rfl ?_
      clear h a w; intro a w h
      refine wv h (r_move h rfl) rfl ?_
      clear h a w; intro a w h
      refine wv h (r_bin h rfl rfl (B.add_i64 (by omega) (by omega))) rfl ?_
      clear h a w; intro a w h
      refine wv h (r_conv h rfl K.u_int K.u_uint (C.u64_i64) ) rfl ?_
      clear h a w; intro a w h
      refine wv h (r_bin h rfl rfl (B.shr_u64 (by decide))) rfl ?_
      clear h a w; intro a w h
      refine wv h (r_conv h rfl K.u_uint K.u_int (C.i64_u64 (by rw [mid_u (P0.length + 1 + p) (P0.length + 1 + r) (by omega)]; omega))) rfl ?_
      clear h a w; intro a w h
      rw [mid_u (P0.length + 1 + p) (P0.length + 1 + r) (by omega)] at h
      refine wv h (r_assign h rfl) rfl ?_
      clear h a w; intro a w h
      rw [show (((P0.length + 1 + p + (P0.length + 1 + r)) / 2 : Nat) : Int) = ((P0.length + 1 + c : Nat) : Int) by omega] at h
      refine wnil (c_then ?_)
      refine c_seq (c_draw K.mixed (by kernel_rfl) h ?_)
      clear h a w; intro a hE
      refine qv hE (fun w hw => r_move ⟨hE, hw⟩ rfl) rfl ?_
      clear hE a; intro a hE
      refine qv hE (fun w hw => r_move ⟨hE, hw⟩ rfl) rfl ?_
      clear hE a; intro a hE
      refine qv hE (fun w hw => r_move ⟨hE, hw⟩ rfl) rfl ?_
      clear hE a; intro a hE
      refine qv hE (fun w hw => r_elPs ⟨hE, hw⟩ rfl rfl K.u_S_pack_item K.sz_pack_item hsp (P0.length + 1 + c) rfl (by omega)) rfl ?_
      clear hE a; intro a hE
      refine qv hE (fun w hw => r_elM (cells := cellsI) ⟨hE, hw⟩ rfl K.u_pack_item rfl K.sz_pack_item rfl (Views.own 0 rfl) hgy) rfl ?_
      clear hE a; intro a hE
      refine qv hE (fun w hw => r_move ⟨hE, hw⟩ rfl) rfl ?_
      clear hE a; intro a hE
      refine qv hE (fun w hw => r_move ⟨hE, hw⟩ rfl) rfl ?_
      clear hE a; intro a hE
      refine qv hE (fun w hw => r_elPs ⟨hE, hw⟩ rfl rfl K.u_S_pack_item K.sz_pack_item hsp (P0.length) (by omega) (by omega)) rfl ?_
      clear hE a; intro a hE
      refine qv hE (fun w hw => r_elM (cells := cellsI) ⟨hE, hw⟩ rfl K.u_pack_item rfl K.sz_pack_item rfl (Views.own 0 rfl) hgx) rfl ?_
      clear hE a; intro a hE
      refine q_callV (fs := #[]) (cs := #[]) hE rfl (vs := [itV y, itV x]) rfl K.go_pack_sorted_1 (fun w hw => srt_call s w y x _ hw) rfl ?_
      clear hE a; intro a hE
      refine qv hE (fun w hw => r_bin ⟨hE, hw⟩ rfl rfl (B.lss_int)) rfl ?_
      clear hE a; intro a hE
      rw [cmp_lt] at hE
      refine qnil hE ?_
      clear hE a; intro a w h
      refine c_then ?_
      refine c_cond h rfl (fun ht3 => ?_) (fun ht3 => ?_)
      ·
       as_aux_lemma =>
        refine c_region ?_
        refine wv h (r_move h rfl) rfl ?_
        clear h a w; intro a w h
        refine wv h (r_bin h rfl rfl (B.add_i64 (by omega) (by omega))) rfl ?_
        clear h a w; intro a w h
        refine wv h (r_assign h rfl) rfl ?_
        clear h a w; intro a w h
        refine wnil ?_
        refine b_normal ?_
        exact ⟨(c + 1, r), h.keep [0, 1, 2, 3, 4, 10, 11], ⟨by simp only; omega, z2, fun y' _ hy' => by simp only [Nat.add_sub_cancel] at hy'; rw [hy] at hy'; cases hy'; exact ht3, z4⟩, by simp only; omega⟩
      ·
       refine c_region ?_
       refine wv h (r_move h rfl) rfl ?_
       clear h a w; intro a w h
       refine wv h (r_assign h rfl) rfl ?_
       clear h a w; intro a w h
       refine wnil ?_
       refine b_normal ?_
       exact ⟨(p, c), h.keep [0, 1, 2, 3, 4, 10, 11], ⟨by simp only; omega, by simp only; omega, z3, fun y' hy' => by simp only at hy'; rw [hy] at hy'; cases hy'; exact ht3⟩, by simp only; omega⟩
     ·
      obtain rfl : p = r := by omega
      refine c_exit ?_
      refine e_then ?_
      refine e_then ?_
      refine e_here ?_
      refine c_then ?_
      refine c_seq ?_
      refine c_seq (c_region ?_)
      refine wv h (r_move h rfl) rfl ?_
      clear h a w; intro a w h
      refine wv h (r_assign h rfl) rfl ?_
      clear h a w; intro a w h
      refine wnil (c_then ?_)
      refine c_block ?_
      refine c_loop (X := Nat) (fun k => [(0, v), (10, .int .i64 ((P0.length + 1 + p : Nat) : Int)), (13, .int .i64 ((P0.length + k : Nat) : Int))]) (fun k => OwnM 33 cellsI v (mvL P0 Bs Q0 x k) :: F)
        (fun k => k ≤ p) (fun k => p - k) 0 (by
          have q := h.keep [0, 10, 13]
          rw [hDm] at q
          subst ha
          exact q) (Nat.zero_le _) ?_
      clear h a w; intro k a w hk h
      as_aux_lemma =>
       refine c_seq ?_
       refine c_seq (c_region ?_)
       refine wv h (r_move h rfl) rfl ?_
       clear h a w; intro a w h
       refine wv h (r_move h rfl) rfl ?_
       clear h a w; intro a w h
       refine wv h (r_bin h rfl rfl (B.sub_i64 (by omega) (by omega))) rfl ?_
       clear h a w; intro a w h
       refine wv h (r_bin h rfl rfl (B.lss_int)) rfl ?_
       clear h a w; intro a w h
       refine wnil (c_then ?_)
       refine c_condP (p := k < p) h rfl (by simp; omega) (fun ht4 => ?_) (fun ht4 => ?_)
       ·
        obtain ⟨y, hy⟩ : ∃ y, Bs[k]? = some y := ⟨_, List.getElem?_eq_getElem (by omega)⟩
        have hcl := mvL_len P0 Bs Q0 x k
        have hgx2 := mvL_get P0 Bs Q0 x k (by omega)
        have hgy2 := mvL_next P0 Bs Q0 x y k hy
        have hfo := mvL_forth P0 Bs Q0 x y k hy
        obtain ⟨cur, hcur⟩ : ∃ cur, cur = mvL P0 Bs Q0 x k := ⟨_, rfl⟩
        rw [← hcur] at h hcl hgx2 hgy2 hfo
        have hsp : Shp v cur.length := Sat.shp h.2 (by omega)
        refine c_skip ?_
        refine c_then ?_
        refine c_seq ?_
        refine c_block ?_
        refine c_drawn 18 K.mixed rfl h ?_
        clear h a w; intro a w h
        have hD : Paid s w [] := Paid.nil
        refine d_take0 (listed' := #[true, false, false, false, false, false, false, false, false, false, false, false, false, false, false, false, false, false]) h hD 0 (by as_aux_lemma => kernel_rfl) rfl (by as_aux_lemma => kernel_rfl) (by as_aux_lemma => kernel_rfl) (by as_aux_lemma => kernel_rfl) (fun _ _ _ _ hh => hh) (fun w h => by first | exact r_move h rfl) rfl ?_
        clear hD h a w; intro a w h hD
        refine d_take0 (listed' := #[true, true, false, false, false, false, false, false, false, false, false, false, false, false, false, false, false, false]) h hD 1 (by as_aux_lemma => kernel_rfl) rfl (by as_aux_lemma => kernel_rfl) (by as_aux_lemma => kernel_rfl) (by as_aux_lemma => kernel_rfl) (fun _ _ _ _ hh => hh) (fun w h => by first | exact r_move h rfl) rfl ?_
        clear hD h a w; intro a w h hD
        refine d_take0 (listed' := #[true, true, true, false, false, false, false, false, false, false, false, false, false, false, false, false, false, false]) h hD 2 (by as_aux_lemma => kernel_rfl) rfl (by as_aux_lemma => kernel_rfl) (by as_aux_lemma => kernel_rfl) (by as_aux_lemma => kernel_rfl) (fun _ _ _ _ hh => hh) (fun w h => by first | exact r_move h rfl) rfl ?_
        clear hD h a w; intro a w h hD
        refine d_take0 (listed' := #[true, true, true, true, false, false, false, false, false, false, false, false, false, false, false, false, false, false]) h hD 3 (by as_aux_lemma => kernel_rfl) rfl (by as_aux_lemma => kernel_rfl) (by as_aux_lemma => kernel_rfl) (by as_aux_lemma => kernel_rfl) (fun _ _ _ _ hh => hh) (fun w h => by first | exact r_move h rfl) rfl ?_
        clear hD h a w; intro a w h hD
        refine d_take0 (listed' := #[true, true, true, true, true, false, false, false, false, false, false, false, false, false, false, false, false, false]) h hD 4 (by as_aux_lemma => kernel_rfl) rfl (by as_aux_lemma => kernel_rfl) (by as_aux_lemma => kernel_rfl) (by as_aux_lemma => kernel_rfl) (fun _ _ _ _ hh => hh) (fun w h => by first | exact r_bin h rfl rfl (B.add_i64 (by omega) (by omega))) rfl ?_
        clear hD h a w; intro a w h hD
        refine d_take0 (listed' := #[true, true, true, true, true, true, false, false, false, false, false, false, false, false, false, false, false, false]) h hD 5 (by as_aux_lemma => kernel_rfl) rfl (by as_aux_lemma => kernel_rfl) (by as_aux_lemma => kernel_rfl) (by as_aux_lemma => kernel_rfl) (fun _ _ _ _ hh => hh) (fun w h => by first | exact r_move h rfl) rfl ?_
        clear hD h a w; intro a w h hD
        refine d_take0 (listed' := #[true, true, true, true, true, true, true, false, false, false, false, false, false, false, false, false, false, false]) h hD 6 (by as_aux_lemma => kernel_rfl) rfl (by as_aux_lemma => kernel_rfl) (by as_aux_lemma => kernel_rfl) (by as_aux_lemma => kernel_rfl) (fun _ _ _ _ hh => hh) (fun w h => by first | exact r_move h rfl) rfl ?_
        clear hD h a w; intro a w h hD
        refine d_take0 (listed' := #[true, true, true, true, true, true, true, true, false, false, false, false, false, false, false, false, false, false]) h hD 7 (by as_aux_lemma => kernel_rfl) rfl (by as_aux_lemma => kernel_rfl) (by as_aux_lemma => kernel_rfl) (by as_aux_lemma => kernel_rfl) (fun _ _ _ _ hh => hh) (fun w h => by first | exact r_bin h rfl rfl (B.add_i64 (by omega) (by omega))) rfl ?_
        clear hD h a w; intro a w h hD
        refine d_take (listed' := #[true, true, true, true, true, true, true, true, true, false, false, false, false, false, false, false, false, false]) h hD 8 _ (by as_aux_lemma => kernel_rfl) rfl (by as_aux_lemma => kernel_rfl) (by as_aux_lemma => kernel_rfl) (by as_aux_lemma => kernel_rfl) (fun _ _ _ _ hh => hh) h.2 (fun w hw => by first | exact r_elPs ⟨h.1, hw⟩ rfl rfl K.u_S_pack_item K.sz_pack_item hsp (P0.length + k + 1) (by omega) (by omega)) rfl ?_
        clear hD h a w; intro a w h hD
        refine d_take (listed' := #[true, true, true, true, true, true, true, true, true, true, false, false, false, false, false, false, false, false]) h hD 9 _ (by as_aux_lemma => kernel_rfl) rfl (by as_aux_lemma => kernel_rfl) (by as_aux_lemma => kernel_rfl) (by as_aux_lemma => kernel_rfl) (fun _ _ _ _ hh => hh) h.2 (fun w hw => by first | exact r_elM (cells := cellsI) ⟨h.1, hw⟩ rfl K.u_pack_item rfl K.sz_pack_item rfl (Views.own 0 rfl) hgy2) rfl ?_
        clear hD h a w; intro a w h hD
        refine d_take0 (listed' := #[true, true, true, true, true, true, true, true, true, true, true, false, false, false, false, false, false, false]) h hD 10 (by as_aux_lemma => kernel_rfl) rfl (by as_aux_lemma => kernel_rfl) (by as_aux_lemma => kernel_rfl) (by as_aux_lemma => kernel_rfl) (fun _ _ _ _ hh => hh) (fun w h => by first | exact r_move h rfl) rfl ?_
        clear hD h a w; intro a w h hD
        refine d_take0 (listed' := #[true, true, true, true, true, true, true, true, true, true, true, true, false, false, false, false, false, false]) h hD 11 (by as_aux_lemma => kernel_rfl) rfl (by as_aux_lemma => kernel_rfl) (by as_aux_lemma => kernel_rfl) (by as_aux_lemma => kernel_rfl) (fun _ _ _ _ hh => hh) (fun w h => by first | exact r_move h rfl) rfl ?_
        clear hD h a w; intro a w h hD
        refine d_take (listed' := #[true, true, true, true, true, true, true, true, true, true, true, true, true, false, false, false, false, false]) h hD 12 (F) (by as_aux_lemma => kernel_rfl) rfl (by as_aux_lemma => kernel_rfl) (by as_aux_lemma => kernel_rfl) (by as_aux_lemma => kernel_rfl) (fun _ _ _ _ hh => hh) (by first | exact h.2 | exact h.2.drop 1 | exact h.2.drop 2 | exact h.2.drop 3 | exact h.2.drop 4 | exact h.2.drop 5 | exact h.2.drop 6 | exact h.2.drop 7) (fun w hw => by first | exact r_elPs ⟨h.1, hw⟩ rfl rfl K.u_S_pack_item K.sz_pack_item hsp (P0.length + k) (by omega) (by omega)) rfl ?_
        clear hD h a w; intro a w h hD
        refine d_take (listed' := #[true, true, true, true, true, true, true, true, true, true, true, true, true, true, false, false, false, false]) h hD 13 _ (by as_aux_lemma => kernel_rfl) rfl (by as_aux_lemma => kernel_rfl) (by as_aux_lemma => kernel_rfl) (by as_aux_lemma => kernel_rfl) (fun _ _ _ _ hh => hh) h.2 (fun w hw => by first | exact r_elM (cells := cellsI) ⟨h.1, hw⟩ rfl K.u_pack_item rfl K.sz_pack_item rfl (Views.own 0 rfl) hgx2) rfl ?_
        clear hD h a w; intro a w h hD
        refine d_take (listed' := #[true, true, true, true, true, true, true, true, true, true, true, true, true, true, true, false, false, false]) h hD 14 (F) (by as_aux_lemma => kernel_rfl) rfl (by as_aux_lemma => kernel_rfl) (by as_aux_lemma => kernel_rfl) (by as_aux_lemma => kernel_rfl) (fun _ _ _ _ hh => hh) (by first | exact h.2 | exact h.2.drop 1 | exact h.2.drop 2 | exact h.2.drop 3 | exact h.2.drop 4 | exact h.2.drop 5 | exact h.2.drop 6 | exact h.2.drop 7) (fun w hw => by first | exact r_elPs ⟨h.1, hw⟩ rfl rfl K.u_S_pack_item K.sz_pack_item hsp (P0.length + k) (by omega) (by omega)) rfl ?_
        clear hD h a w; intro a w h hD
        refine d_only (listed' := #[true, true, true, true, true, true, true, true, true, true, true, true, true, true, true, true, false, false]) 15 [false, false, true, false, false] (by as_aux_lemma => kernel_rfl) rfl rfl (by as_aux_lemma => kernel_rfl) (by as_aux_lemma => kernel_rfl) ?_
        first
                | (refine op_storeR h rfl rfl K.sz_pack_item 0 rfl (by first | omega | (simp only [List.length_cons, List.length_nil]; omega) | (simp; done) | (simp; omega)) ?_)
                | (refine op_storeR h rfl rfl K.sz_pack_item 1 rfl (by first | omega | (simp only [List.length_cons, List.length_nil]; omega) | (simp; done) | (simp; omega)) ?_)
                | (refine op_storeR h rfl rfl K.sz_pack_item 2 rfl (by first | omega | (simp only [List.length_cons, List.length_nil]; omega) | (simp; done) | (simp; omega)) ?_)
                | (refine op_storeR h rfl rfl K.sz_pack_item 3 rfl (by first | omega | (simp only [List.length_cons, List.length_nil]; omega) | (simp; done) | (simp; omega)) ?_)
                | (refine op_storeR h rfl rfl K.sz_pack_item 4 rfl (by first | omega | (simp only [List.length_cons, List.length_nil]; omega) | (simp; done) | (simp; omega)) ?_)
                | (refine op_storeR h rfl rfl K.sz_pack_item 5 rfl (by first | omega | (simp only [List.length_cons, List.length_nil]; omega) | (simp; done) | (simp; omega)) ?_)
        clear hD h a w; intro a w h
        (try simp only [List.set_cons_zero, List.set_cons_succ] at h)
        refine d_pay (Paid.cons (by first | exact h.2 | exact h.2.drop 1 | exact h.2.drop 2 | exact h.2.drop 3 | exact h.2.drop 4 | exact h.2.drop 5 | exact h.2.drop 6 | exact h.2.drop 7) (Paid.nil)) (fun hD => ?_)
        refine d_take (listed' := #[true, true, true, true, true, true, true, true, true, true, true, true, true, true, true, true, true, false]) h hD 16 _ (by as_aux_lemma => kernel_rfl) rfl (by as_aux_lemma => kernel_rfl) (by as_aux_lemma => kernel_rfl) (by as_aux_lemma => kernel_rfl) (fun _ _ _ _ hh => hh) h.2 (fun w hw => by first | exact r_elPs ⟨h.1, hw⟩ rfl rfl K.u_S_pack_item K.sz_pack_item hsp (P0.length + k + 1) (by omega) (by omega)) rfl ?_
        clear hD h a w; intro a w h hD
        refine d_only (listed' := #[true, true, true, true, true, true, true, true, true, true, true, true, true, true, true, true, true, true]) 17 [false, false] (by as_aux_lemma => kernel_rfl) rfl rfl (by as_aux_lemma => kernel_rfl) (by as_aux_lemma => kernel_rfl) ?_
        first
                | (refine op_storeR h rfl rfl K.sz_pack_item 0 rfl (by first | omega | (simp only [List.length_cons, List.length_nil]; omega) | (simp; done) | (simp; omega)) ?_)
                | (refine op_storeR h rfl rfl K.sz_pack_item 1 rfl (by first | omega | (simp only [List.length_cons, List.length_nil]; omega) | (simp; done) | (simp; omega)) ?_)
                | (refine op_storeR h rfl rfl K.sz_pack_item 2 rfl (by first | omega | (simp only [List.length_cons, List.length_nil]; omega) | (simp; done) | (simp; omega)) ?_)
                | (refine op_storeR h rfl rfl K.sz_pack_item 3 rfl (by first | omega | (simp only [List.length_cons, List.length_nil]; omega) | (simp; done) | (simp; omega)) ?_)
                | (refine op_storeR h rfl rfl K.sz_pack_item 4 rfl (by first | omega | (simp only [List.length_cons, List.length_nil]; omega) | (simp; done) | (simp; omega)) ?_)
                | (refine op_storeR h rfl rfl K.sz_pack_item 5 rfl (by first | omega | (simp only [List.length_cons, List.length_nil]; omega) | (simp; done) | (simp; omega)) ?_)
        clear hD h a w; intro a w h
        (try simp only [List.set_cons_zero, List.set_cons_succ] at h)
        refine d_pay (Paid.nil) (fun hD => ?_)
        refine d_done (by kernel_rfl) ?_
        clear hD
        refine b_normal ?_
        refine c_then ?_
        refine c_region ?_
        refine wv h (r_move h rfl) rfl ?_
        clear h a w; intro a w h
        refine wv h (r_bin h rfl rfl (B.add_i64 (by omega) (by omega))) rfl ?_
        clear h a w; intro a w h
        refine wv h (r_assign h rfl) rfl ?_
        clear h a w; intro a w h
        refine wnil ?_
        rw [hfo] at h
        exact ⟨k + 1, h.keep [0, 10, 13], ht4, by omega⟩
       ·
        refine c_exit ?_
        refine e_then ?_
        refine e_then ?_
        refine e_here ?_
        refine c_then ?_
        refine c_ret ?_
        obtain rfl : k = p := by omega
        have e := put_first (q := k) hB z2 z3 z4
        rw [mvL, e, ← hx] at h
        exact ret0 h rfl ⟨(), rfl, h.2, trivial⟩
  ·
   refine c_skip ?_
   refine c_then ?_
   refine c_seq ?_
   refine c_seq (c_region ?_)
   refine wv h (r_move h rfl) rfl ?_
   clear h a w; intro a w h
   refine wv h (r_move h rfl) rfl ?_
   clear h a w; intro a w h
   refine wv h (r_bin h rfl rfl (B.sub_i64 (by omega) (by omega))) rfl ?_
   clear h a w; intro a w h
   refine wv h (r_bin h rfl rfl (B.eql_int)) rfl ?_
   clear h a w; intro a w h
   refine wnil (c_then ?_)
   refine c_condP (p := Bs.length = 1) h rfl (by simp; omega) (fun ht5 => ?_) (fun ht5 => ?_)
   ·
    obtain ⟨y, hy⟩ : ∃ y, Bs = [y] := List.length_eq_one_iff.1 ht5
    have hDm : D = mvL P0 As Q0 y As.length := by rw [hD, hy, mvL, List.take_length, List.drop_length]; simp
    have hgy : D[P0.length + As.length]? = some y := by rw [hDm]; exact mvL_get P0 As Q0 y As.length (Nat.le_refl _)
    as_aux_lemma =>
     refine c_seq (c_region ?_)
     refine wv h (r_move h rfl) rfl ?_
     clear h a w; intro a w h
     refine wv h (r_assign h rfl) rfl ?_
     clear h a w; intro a w h
     refine wnil (c_then ?_)
     refine c_seq (c_region ?_)
     refine wv h (r_move h rfl) rfl ?_
     clear h a w; intro a w h
     refine wv h (r_assign h rfl) rfl ?_
     clear h a w; intro a w h
     refine wnil (c_then ?_)
     refine c_seq ?_
     refine c_block ?_
     refine c_loop (X := Nat × Nat) (fun z => [(0, v), (1, .int .i64 (a0 : Int)), (2, .int .i64 (m : Int)), (3, .int .i64 (b0 : Int)), (4, .func (.func n_pack_sorted_1) #[] #[]), (14, .int .i64 ((P0.length + z.1 : Nat) : Int)), (15, .int .i64 ((P0.length + z.2 : Nat) : Int))]) (fun _ => OwnM 33 cellsI v D :: F)
       (fun z => z.1 ≤ z.2 ∧ z.2 ≤ As.length ∧ (∀ x, 0 < z.1 → As[z.1 - 1]? = some x → lt y x = false) ∧ ∀ x, As[z.2]? = some x → lt y x = true) (fun z => z.2 - z.1) (0, As.length) (by
         have q := h.keep [0, 1, 2, 3, 4, 14, 15]
         subst ha hm
         exact q) ⟨Nat.zero_le _, Nat.le_refl _, fun _ h0 => by omega, fun y hy => by rw [List.getElem?_eq_none (by simp)] at hy; cases hy⟩ ?_
     clear h a w; intro z a w hz h
     obtain ⟨p, r⟩ := z
     obtain ⟨z1, z2, z3, z4⟩ := hz
     simp only at z1 z2 z3 z4 h
     as_aux_lemma =>
      refine c_seq ?_
      refine c_seq (c_region ?_)
      refine wv h (r_move h rfl) rfl ?_
      clear h a w; intro a w h
      refine wv h (r_move h rfl) rfl ?_
      clear h a w; intro a w h
      refine wv h (r_bin h rfl rfl (B.lss_int)) rfl ?_
      clear h a w; intro a w h
      refine wnil (c_then ?_)
      refine c_condP (p := p < r) h rfl (by simp) (fun ht6 => ?_) (fun ht6 => ?_)
      ·
       obtain ⟨c, hc⟩ : ∃ c, c = (p + r) / 2 := ⟨_, rfl⟩
       obtain ⟨x, hx⟩ : ∃ x, As[c]? = some x := ⟨_, List.getElem?_eq_getElem (by omega)⟩
       have hgx : D[P0.length + c]? = some x := by rw [ga c (by omega)]; exact hx
       refine c_skip ?_
       refine c_then ?_
       refine c_block ?_
       refine c_seq (c_region ?_)
       refine wv h (r_move h rfl) rfl ?_
       clear h a w; intro a w h
       refine wv h (r_move h rfl) rfl ?_
       clear h a w; intro a w h
       refine wv h (r_bin h rfl rfl (B.add_i64 (by omega) (by omega))) rfl ?_
       clear h a w; intro a w h
       refine wv h (r_conv h rfl K.u_int K.u_uint (C.u64_i64) ) rfl ?_
       clear h a w; intro a w h
       refine wv h (r_bin h rfl rfl (B.shr_u64 (by decide))) rfl ?_
       clear h a w; intro a w h
       refine wv h (r_conv h rfl K.u_uint K.u_int (C.i64_u64 (by rw [mid_u (P0.length + p) (P0.length + r) (by omega)]; omega))) rfl ?_
       clear h a w; intro a w h
       rw [mid_u (P0.length + p) (P0.length + r) (by omega)] at h
       refine wv h (r_assign h rfl) rfl ?_
       clear h a w; intro a w h
       rw [show (((P0.length + p + (P0.length + r)) / 2 : Nat) : Int) = ((P0.length + c : Nat) : Int) by omega] at h
       refine wnil (c_then ?_)
       refine c_seq (c_draw K.mixed (by kernel_rfl) h ?_)
       clear h a w; intro a hE
       refine qv hE (fun w hw => r_move ⟨hE, hw⟩ rfl) rfl ?_
       clear hE a; intro a hE
       refine qv hE (fun w hw => r_move ⟨hE, hw⟩ rfl) rfl ?_
       clear hE a; intro a hE
       refine qv hE (fun w hw => r_move ⟨hE, hw⟩ rfl) rfl ?_
       clear hE a; intro a hE
       refine qv hE (fun w hw => r_elPs ⟨hE, hw⟩ rfl rfl K.u_S_pack_item K.sz_pack_item hsp (P0.length + As.length) (by omega) (by omega)) rfl ?_
       clear hE a; intro a hE
       refine qv hE (fun w hw => r_elM (cells := cellsI) ⟨hE, hw⟩ rfl K.u_pack_item rfl K.sz_pack_item rfl (Views.own 0 rfl) hgy) rfl ?_
       clear hE a; intro a hE
       refine qv hE (fun w hw => r_move ⟨hE, hw⟩ rfl) rfl ?_
       clear hE a; intro a hE
       refine qv hE (fun w hw => r_move ⟨hE, hw⟩ rfl) rfl ?_
       clear hE a; intro a hE
       refine qv hE (fun w hw => r_elPs ⟨hE, hw⟩ rfl rfl K.u_S_pack_item K.sz_pack_item hsp (P0.length + c) rfl (by omega)) rfl ?_
       clear hE a; intro a hE
       refine qv hE (fun w hw => r_elM (cells := cellsI) ⟨hE, hw⟩ rfl K.u_pack_item rfl K.sz_pack_item rfl (Views.own 0 rfl) hgx) rfl ?_
       clear hE a; intro a hE
       refine q_callV (fs := #[]) (cs := #[]) hE rfl (vs := [itV y, itV x]) rfl K.go_pack_sorted_1 (fun w hw => srt_call s w y x _ hw) rfl ?_
       clear hE a; intro a hE
       refine qv hE (fun w hw => r_bin ⟨hE, hw⟩ rfl rfl (B.lss_int)) rfl ?_
       clear hE a; intro a hE
       rw [cmp_lt] at hE
       refine qv hE (fun w hw => r_not ⟨hE, hw⟩ rfl) rfl ?_
       clear hE a; intro a hE
       refine qnil hE ?_
       clear hE a; intro a w h
       refine c_then ?_
       refine c_cond h rfl (fun ht7 => ?_) (fun ht7 => ?_)
       ·
        as_aux_lemma =>
         refine c_region ?_
         refine wv h (r_move h rfl) rfl ?_
         clear h a w; intro a w h
         refine wv h (r_bin h rfl rfl (B.add_i64 (by omega) (by omega))) rfl ?_
         clear h a w; intro a w h
         refine wv h (r_assign h rfl) rfl ?_
         clear h a w; intro a w h
         refine wnil ?_
         refine b_normal ?_
         exact ⟨(c + 1, r), h.keep [0, 1, 2, 3, 4, 14, 15], ⟨by simp only; omega, z2, fun y' _ hy' => by simp only [Nat.add_sub_cancel] at hy'; rw [hx] at hy'; cases hy'; simpa using ht7, z4⟩, by simp only; omega⟩
       ·
        refine c_region ?_
        refine wv h (r_move h rfl) rfl ?_
        clear h a w; intro a w h
        refine wv h (r_assign h rfl) rfl ?_
        clear h a w; intro a w h
        refine wnil ?_
        refine b_normal ?_
        exact ⟨(p, c), h.keep [0, 1, 2, 3, 4, 14, 15], ⟨by simp only; omega, by simp only; omega, z3, fun y' hy' => by simp only at hy'; rw [hx] at hy'; cases hy'; simpa using ht7⟩, by simp only; omega⟩
      ·
       obtain rfl : p = r := by omega
       refine c_exit ?_
       refine e_then ?_
       refine e_then ?_
       refine e_here ?_
       refine c_then ?_
       refine c_seq ?_
       refine c_seq (c_region ?_)
       refine wv h (r_move h rfl) rfl ?_
       clear h a w; intro a w h
       refine wv h (r_assign h rfl) rfl ?_
       clear h a w; intro a w h
       refine wnil (c_then ?_)
       refine c_block ?_
       refine c_loop (X := Nat) (fun k => [(0, v), (14, .int .i64 ((P0.length + p : Nat) : Int)), (17, .int .i64 ((P0.length + k : Nat) : Int))]) (fun k => OwnM 33 cellsI v (mvL P0 As Q0 y k) :: F)
         (fun k => p ≤ k ∧ k ≤ As.length) (fun k => k - p) As.length (by
           have q := h.keep [0, 14, 17]
           rw [hDm] at q
           subst hm
           exact q) ⟨z2, Nat.le_refl _⟩ ?_
       clear h a w; intro k a w hk h
       as_aux_lemma =>
        refine c_seq ?_
        refine c_seq (c_region ?_)
        refine wv h (r_move h rfl) rfl ?_
        clear h a w; intro a w h
        refine wv h (r_move h rfl) rfl ?_
        clear h a w; intro a w h
        refine wv h (r_bin h rfl rfl (B.gtr_int)) rfl ?_
        clear h a w; intro a w h
        refine wnil (c_then ?_)
        refine c_condP (p := p < k) h rfl (by simp) (fun ht8 => ?_) (fun ht8 => ?_)
        ·
         obtain ⟨k', rfl⟩ : ∃ k', k = k' + 1 := ⟨k - 1, by omega⟩
         obtain ⟨x, hx⟩ : ∃ x, As[k']? = some x := ⟨_, List.getElem?_eq_getElem (by omega)⟩
         have hcl := mvL_len P0 As Q0 y (k' + 1)
         have hgx2 := mvL_get P0 As Q0 y (k' + 1) (by omega)
         have hgy2 := mvL_prev P0 As Q0 y x k' hx
         have hfo := mvL_back P0 As Q0 y x k' hx
         obtain ⟨cur, hcur⟩ : ∃ cur, cur = mvL P0 As Q0 y (k' + 1) := ⟨_, rfl⟩
         rw [← hcur] at h hcl hgx2 hgy2 hfo
         have hsp : Shp v cur.length := Sat.shp h.2 (by omega)
         refine c_skip ?_
         refine c_then ?_
         refine c_seq ?_
         refine c_block ?_
         refine c_drawn 18 K.mixed rfl h ?_
         clear h a w; intro a w h
         have hD : Paid s w [] := Paid.nil
         refine d_take0 (listed' := #[true, false, false, false, false, false, false, false, false, false, false, false, false, false, false, false, false, false]) h hD 0 (by as_aux_lemma => kernel_rfl) rfl (by as_aux_lemma => kernel_rfl) (by as_aux_lemma => kernel_rfl) (by as_aux_lemma => kernel_rfl) (fun _ _ _ _ hh => hh) (fun w h => by first | exact r_move h rfl) rfl ?_
         clear hD h a w; intro a w h hD
         refine d_take0 (listed' := #[true, true, false, false, false, false, false, false, false, false, false, false, false, false, false, false, false, false]) h hD 1 (by as_aux_lemma => kernel_rfl) rfl (by as_aux_lemma => kernel_rfl) (by as_aux_lemma => kernel_rfl) (by as_aux_lemma => kernel_rfl) (fun _ _ _ _ hh => hh) (fun w h => by first | exact r_move h rfl) rfl ?_
         clear hD h a w; intro a w h hD
         refine d_take0 (listed' := #[true, true, true, false, false, false, false, false, false, false, false, false, false, false, false, false, false, false]) h hD 2 (by as_aux_lemma => kernel_rfl) rfl (by as_aux_lemma => kernel_rfl) (by as_aux_lemma => kernel_rfl) (by as_aux_lemma => kernel_rfl) (fun _ _ _ _ hh => hh) (fun w h => by first | exact r_move h rfl) rfl ?_
         clear hD h a w; intro a w h hD
         refine d_take0 (listed' := #[true, true, true, true, false, false, false, false, false, false, false, false, false, false, false, false, false, false]) h hD 3 (by as_aux_lemma => kernel_rfl) rfl (by as_aux_lemma => kernel_rfl) (by as_aux_lemma => kernel_rfl) (by as_aux_lemma => kernel_rfl) (fun _ _ _ _ hh => hh) (fun w h => by first | exact r_move h rfl) rfl ?_
         clear hD h a w; intro a w h hD
         refine d_take0 (listed' := #[true, true, true, true, true, false, false, false, false, false, false, false, false, false, false, false, false, false]) h hD 4 (by as_aux_lemma => kernel_rfl) rfl (by as_aux_lemma => kernel_rfl) (by as_aux_lemma => kernel_rfl) (by as_aux_lemma => kernel_rfl) (fun _ _ _ _ hh => hh) (fun w h => by first | exact r_bin h rfl rfl (B.sub_i64 (by omega) (by omega))) rfl ?_
         clear hD h a w; intro a w h hD
         refine d_take0 (listed' := #[true, true, true, true, true, true, false, false, false, false, false, false, false, false, false, false, false, false]) h hD 5 (by as_aux_lemma => kernel_rfl) rfl (by as_aux_lemma => kernel_rfl) (by as_aux_lemma => kernel_rfl) (by as_aux_lemma => kernel_rfl) (fun _ _ _ _ hh => hh) (fun w h => by first | exact r_move h rfl) rfl ?_
         clear hD h a w; intro a w h hD
         refine d_take0 (listed' := #[true, true, true, true, true, true, true, false, false, false, false, false, false, false, false, false, false, false]) h hD 6 (by as_aux_lemma => kernel_rfl) rfl (by as_aux_lemma => kernel_rfl) (by as_aux_lemma => kernel_rfl) (by as_aux_lemma => kernel_rfl) (fun _ _ _ _ hh => hh) (fun w h => by first | exact r_move h rfl) rfl ?_
         clear hD h a w; intro a w h hD
         refine d_take0 (listed' := #[true, true, true, true, true, true, true, true, false, false, false, false, false, false, false, false, false, false]) h hD 7 (by as_aux_lemma => kernel_rfl) rfl (by as_aux_lemma => kernel_rfl) (by as_aux_lemma => kernel_rfl) (by as_aux_lemma => kernel_rfl) (fun _ _ _ _ hh => hh) (fun w h => by first | exact r_bin h rfl rfl (B.sub_i64 (by omega) (by omega))) rfl ?_
         clear hD h a w; intro a w h hD
         refine d_take (listed' := #[true, true, true, true, true, true, true, true, true, false, false, false, false, false, false, false, false, false]) h hD 8 _ (by as_aux_lemma => kernel_rfl) rfl (by as_aux_lemma => kernel_rfl) (by as_aux_lemma => kernel_rfl) (by as_aux_lemma => kernel_rfl) (fun _ _ _ _ hh => hh) h.2 (fun w hw => by first | exact r_elPs ⟨h.1, hw⟩ rfl rfl K.u_S_pack_item K.sz_pack_item hsp (P0.length + k') (by omega) (by omega)) rfl ?_
         clear hD h a w; intro a w h hD
         refine d_take (listed' := #[true, true, true, true, true, true, true, true, true, true, false, false, false, false, false, false, false, false]) h hD 9 _ (by as_aux_lemma => kernel_rfl) rfl (by as_aux_lemma => kernel_rfl) (by as_aux_lemma => kernel_rfl) (by as_aux_lemma => kernel_rfl) (fun _ _ _ _ hh => hh) h.2 (fun w hw => by first | exact r_elM (cells := cellsI) ⟨h.1, hw⟩ rfl K.u_pack_item rfl K.sz_pack_item rfl (Views.own 0 rfl) hgy2) rfl ?_
         clear hD h a w; intro a w h hD
         refine d_take0 (listed' := #[true, true, true, true, true, true, true, true, true, true, true, false, false, false, false, false, false, false]) h hD 10 (by as_aux_lemma => kernel_rfl) rfl (by as_aux_lemma => kernel_rfl) (by as_aux_lemma => kernel_rfl) (by as_aux_lemma => kernel_rfl) (fun _ _ _ _ hh => hh) (fun w h => by first | exact r_move h rfl) rfl ?_
         clear hD h a w; intro a w h hD
         refine d_take0 (listed' := #[true, true, true, true, true, true, true, true, true, true, true, true, false, false, false, false, false, false]) h hD 11 (by as_aux_lemma => kernel_rfl) rfl (by as_aux_lemma => kernel_rfl) (by as_aux_lemma => kernel_rfl) (by as_aux_lemma => kernel_rfl) (fun _ _ _ _ hh => hh) (fun w h => by first | exact r_move h rfl) rfl ?_
         clear hD h a w; intro a w h hD
         refine d_take (listed' := #[true, true, true, true, true, true, true, true, true, true, true, true, true, false, false, false, false, false]) h hD 12 (F) (by as_aux_lemma => kernel_rfl) rfl (by as_aux_lemma => kernel_rfl) (by as_aux_lemma => kernel_rfl) (by as_aux_lemma => kernel_rfl) (fun _ _ _ _ hh => hh) (by first | exact h.2 | exact h.2.drop 1 | exact h.2.drop 2 | exact h.2.drop 3 | exact h.2.drop 4 | exact h.2.drop 5 | exact h.2.drop 6 | exact h.2.drop 7) (fun w hw => by first | exact r_elPs ⟨h.1, hw⟩ rfl rfl K.u_S_pack_item K.sz_pack_item hsp (P0.length + (k' + 1)) (by omega) (by omega)) rfl ?_
         clear hD h a w; intro a w h hD
         refine d_take (listed' := #[true, true, true, true, true, true, true, true, true, true, true, true, true, true, false, false, false, false]) h hD 13 _ (by as_aux_lemma => kernel_rfl) rfl (by as_aux_lemma => kernel_rfl) (by as_aux_lemma => kernel_rfl) (by as_aux_lemma => kernel_rfl) (fun _ _ _ _ hh => hh) h.2 (fun w hw => by first | exact r_elM (cells := cellsI) ⟨h.1, hw⟩ rfl K.u_pack_item rfl K.sz_pack_item rfl (Views.own 0 rfl) hgx2) rfl ?_
         clear hD h a w; intro a w h hD
         refine d_take (listed' := #[true, true, true, true, true, true, true, true, true, true, true, true, true, true, true, false, false, false]) h hD 14 (F) (by as_aux_lemma => kernel_rfl) rfl (by as_aux_lemma => kernel_rfl) (by as_aux_lemma => kernel_rfl) (by as_aux_lemma => kernel_rfl) (fun _ _ _ _ hh => hh) (by first | exact h.2 | exact h.2.drop 1 | exact h.2.drop 2 | exact h.2.drop 3 | exact h.2.drop 4 | exact h.2.drop 5 | exact h.2.drop 6 | exact h.2.drop 7) (fun w hw => by first | exact r_elPs ⟨h.1, hw⟩ rfl rfl K.u_S_pack_item K.sz_pack_item hsp (P0.length + (k' + 1)) (by omega) (by omega)) rfl ?_
         clear hD h a w; intro a w h hD
         refine d_only (listed' := #[true, true, true, true, true, true, true, true, true, true, true, true, true, true, true, true, false, false]) 15 [false, false, true, false, false] (by as_aux_lemma => kernel_rfl) rfl rfl (by as_aux_lemma => kernel_rfl) (by as_aux_lemma => kernel_rfl) ?_
         first
                  | (refine op_storeR h rfl rfl K.sz_pack_item 0 rfl (by first | omega | (simp only [List.length_cons, List.length_nil]; omega) | (simp; done) | (simp; omega)) ?_)
                  | (refine op_storeR h rfl rfl K.sz_pack_item 1 rfl (by first | omega | (simp only [List.length_cons, List.length_nil]; omega) | (simp; done) | (simp; omega)) ?_)
                  | (refine op_storeR h rfl rfl K.sz_pack_item 2 rfl (by first | omega | (simp only [List.length_cons, List.length_nil]; omega) | (simp; done) | (simp; omega)) ?_)
                  | (refine op_storeR h rfl rfl K.sz_pack_item 3 rfl (by first | omega | (simp only [List.length_cons, List.length_nil]; omega) | (simp; done) | (simp; omega)) ?_)
                  | (refine op_storeR h rfl rfl K.sz_pack_item 4 rfl (by first | omega | (simp only [List.length_cons, List.length_nil]; omega) | (simp; done) | (simp; omega)) ?_)
                  | (refine op_storeR h rfl rfl K.sz_pack_item 5 rfl (by first | omega | (simp only [List.length_cons, List.length_nil]; omega) | (simp; done) | (simp; omega)) ?_)
         clear hD h a w; intro a w h
         (try simp only [List.set_cons_zero, List.set_cons_succ] at h)
         refine d_pay (Paid.cons (by first | exact h.2 | exact h.2.drop 1 | exact h.2.drop 2 | exact h.2.drop 3 | exact h.2.drop 4 | exact h.2.drop 5 | exact h.2.drop 6 | exact h.2.drop 7) (Paid.nil)) (fun hD => ?_)
         refine d_take (listed' := #[true, true, true, true, true, true, true, true, true, true, true, true, true, true, true, true, true, false]) h hD 16 _ (by as_aux_lemma => kernel_rfl) rfl (by as_aux_lemma => kernel_rfl) (by as_aux_lemma => kernel_rfl) (by as_aux_lemma => kernel_rfl) (fun _ _ _ _ hh => hh) h.2 (fun w hw => by first | exact r_elPs ⟨h.1, hw⟩ rfl rfl K.u_S_pack_item K.sz_pack_item hsp (P0.length + k') (by omega) (by omega)) rfl ?_
         clear hD h a w; intro a w h hD
         refine d_only (listed' := #[true, true, true, true, true, true, true, true, true, true, true, true, true, true, true, true, true, true]) 17 [false, false] (by as_aux_lemma => kernel_rfl) rfl rfl (by as_aux_lemma => kernel_rfl) (by as_aux_lemma => kernel_rfl) ?_
         first
                  | (refine op_storeR h rfl rfl K.sz_pack_item 0 rfl (by first | omega | (simp only [List.length_cons, List.length_nil]; omega) | (simp; done) | (simp; omega)) ?_)
                  | (refine op_storeR h rfl rfl K.sz_pack_item 1 rfl (by first | omega | (simp only [List.length_cons, List.length_nil]; omega) | (simp; done) | (simp; omega)) ?_)
                  | (refine op_storeR h rfl rfl K.sz_pack_item 2 rfl (by first | omega | (simp only [List.length_cons, List.length_nil]; omega) | (simp; done) | (simp; omega)) ?_)
                  | (refine op_storeR h rfl rfl K.sz_pack_item 3 rfl (by first | omega | (simp only [List.length_cons, List.length_nil]; omega) | (simp; done) | (simp; omega)) ?_)
                  | (refine op_storeR h rfl rfl K.sz_pack_item 4 rfl (by first | omega | (simp only [List.length_cons, List.length_nil]; omega) | (simp; done) | (simp; omega)) ?_)
                  | (refine op_storeR h rfl rfl K.sz_pack_item 5 rfl (by first | omega | (simp only [List.length_cons, List.length_nil]; omega) | (simp; done) | (simp; omega)) ?_)
         clear hD h a w; intro a w h
         (try simp only [List.set_cons_zero, List.set_cons_succ] at h)
         refine d_pay (Paid.nil) (fun hD => ?_)
         refine d_done (by kernel_rfl) ?_
         clear hD
         refine b_normal ?_
         refine c_then ?_
         refine c_region ?_
         refine wv h (r_move h rfl) rfl ?_
         clear h a w; intro a w h
         refine wv h (r_bin h rfl rfl (B.sub_i64 (by omega) (by omega))) rfl ?_
         clear h a w; intro a w h
         rw [show (((P0.length + (k' + 1) : Nat) : Int) - 1) = ((P0.length + k' : Nat) : Int) by omega] at h
         refine wv h (r_assign h rfl) rfl ?_
         clear h a w; intro a w h
         refine wnil ?_
         rw [show P0.length + k' + 1 = P0.length + (k' + 1) by omega] at hfo
         rw [hfo] at h
         exact ⟨k', h.keep [0, 14, 17], ⟨by omega, by omega⟩, by omega⟩
        ·
         refine c_exit ?_
         refine e_then ?_
         refine e_then ?_
         refine e_here ?_
         refine c_then ?_
         refine c_ret ?_
         obtain rfl : k = p := by omega
         have e := put_last (q := k) hA z2 z3 z4
         rw [mvL, e, ← hy] at h
         exact ret0 h rfl ⟨(), rfl, h.2, trivial⟩
   ·
    refine c_skip ?_
    refine c_then ?_
    refine c_seq (c_region ?_)
    refine wv h (r_move h rfl) rfl ?_
    clear h a w; intro a w h
    refine wv h (r_move h rfl) rfl ?_
    clear h a w; intro a w h
    refine wv h (r_bin h rfl rfl (B.add_i64 (by omega) (by omega))) rfl ?_
    clear h a w; intro a w h
    refine wv h (r_conv h rfl K.u_int K.u_uint (C.u64_i64) ) rfl ?_
    clear h a w; intro a w h
    refine wv h (r_bin h rfl rfl (B.shr_u64 (by decide))) rfl ?_
    clear h a w; intro a w h
    refine wv h (r_conv h rfl K.u_uint K.u_int (C.i64_u64 (by rw [mid_u (a0) (b0) (by omega)]; omega))) rfl ?_
    clear h a w; intro a w h
    rw [mid_u (a0) (b0) (by omega)] at h
    obtain ⟨mi, hmi⟩ : ∃ mi, mi = (a0 + b0) / 2 := ⟨_, rfl⟩
    rw [← hmi] at h
    obtain ⟨n, hn⟩ : ∃ n, n = mi + m := ⟨_, rfl⟩
    refine wv h (r_assign h rfl) rfl ?_
    clear h a w; intro a w h
    refine wnil (c_then ?_)
    refine c_seq (c_region ?_)
    refine wv h (r_move h rfl) rfl ?_
    clear h a w; intro a w h
    refine wv h (r_move h rfl) rfl ?_
    clear h a w; intro a w h
    refine wv h (r_bin h rfl rfl (B.add_i64 (by omega) (by omega))) rfl ?_
    clear h a w; intro a w h
    rw [show ((mi : Int) + (m : Int)) = (n : Int) by omega] at h
    refine wv h (r_assign h rfl) rfl ?_
    clear h a w; intro a w h
    refine wnil (c_then ?_)
    refine c_seq (c_region ?_)
    refine wv h (r_assign h rfl) rfl ?_
    clear h a w; intro a w h
    refine wv h (r_assign h rfl) rfl ?_
    clear h a w; intro a w h
    refine wnil (c_then ?_)
    refine c_meet h (X := Nat × Nat) (fun z => [(0, v), (1, .int .i64 (a0 : Int)), (2, .int .i64 (m : Int)), (3, .int .i64 (b0 : Int)), (4, .func (.func n_pack_sorted_1) #[] #[]), (18, .int .i64 (mi : Int)), (19, .int .i64 (n : Int)), (20, .int .i64 (z.1 : Int)), (21, .int .i64 (z.2 : Int))]) (fun _ => OwnM 33 cellsI v D :: F)
      (fun z => (mi < m ∧ z.1 = n - b0 ∧ z.2 = mi) ∨ (m ≤ mi ∧ z.1 = a0 ∧ z.2 = m)) ?_ ?_
    ·
     refine c_seq (c_region ?_)
     refine wv h (r_move h rfl) rfl ?_
     clear h a w; intro a w h
     refine wv h (r_move h rfl) rfl ?_
     clear h a w; intro a w h
     refine wv h (r_bin h rfl rfl (B.gtr_int)) rfl ?_
     clear h a w; intro a w h
     refine wnil (c_then ?_)
     refine c_condP (p := mi < m) h rfl (by simp) (fun ht9 => ?_) (fun ht9 => ?_)
     ·
      as_aux_lemma =>
       refine c_seq (c_region ?_)
       refine wv h (r_move h rfl) rfl ?_
       clear h a w; intro a w h
       refine wv h (r_move h rfl) rfl ?_
       clear h a w; intro a w h
       refine wv h (r_bin h rfl rfl (B.sub_i64 (by omega) (by omega))) rfl ?_
       clear h a w; intro a w h
       rw [show ((n : Int) - (b0 : Int)) = ((n - b0 : Nat) : Int) by omega] at h
       refine wv h (r_assign h rfl) rfl ?_
       clear h a w; intro a w h
       refine wnil (c_then ?_)
       refine c_region ?_
       refine wv h (r_move h rfl) rfl ?_
       clear h a w; intro a w h
       refine wv h (r_assign h rfl) rfl ?_
       clear h a w; intro a w h
       refine wnil ?_
       exact ⟨(n - b0, mi), h.keep [0, 1, 2, 3, 4, 18, 19, 20, 21], .inl ⟨ht9, rfl, rfl⟩⟩
     ·
      refine c_seq (c_region ?_)
      refine wv h (r_move h rfl) rfl ?_
      clear h a w; intro a w h
      refine wv h (r_assign h rfl) rfl ?_
      clear h a w; intro a w h
      refine wnil (c_then ?_)
      refine c_region ?_
      refine wv h (r_move h rfl) rfl ?_
      clear h a w; intro a w h
      refine wv h (r_assign h rfl) rfl ?_
      clear h a w; intro a w h
      refine wnil ?_
      exact ⟨(a0, m), h.keep [0, 1, 2, 3, 4, 18, 19, 20, 21], .inr ⟨by omega, rfl, rfl⟩⟩
    ·
     clear h a w; intro z a w hz h
     obtain ⟨st0, r0⟩ := z
     simp only at hz h
     refine c_seq (c_region ?_)
     refine wv h (r_move h rfl) rfl ?_
     clear h a w; intro a w h
     refine wv h (r_bin h rfl rfl (B.sub_i64 (by omega) (by omega))) rfl ?_
     clear h a w; intro a w h
     rw [show ((n : Int) - 1) = ((n - 1 : Nat) : Int) by omega] at h
     refine wv h (r_assign h rfl) rfl ?_
     clear h a w; intro a w h
     refine wnil (c_then ?_)
     refine c_seq ?_
     refine c_block ?_
     refine c_loop (X := Nat × Nat) (fun z => [(0, v), (1, .int .i64 (a0 : Int)), (2, .int .i64 (m : Int)), (3, .int .i64 (b0 : Int)), (4, .func (.func n_pack_sorted_1) #[] #[]), (18, .int .i64 (mi : Int)), (19, .int .i64 (n : Int)), (20, .int .i64 (z.1 : Int)), (21, .int .i64 (z.2 : Int)), (22, .int .i64 ((n - 1 : Nat) : Int))]) (fun _ => OwnM 33 cellsI v D :: F)
       (fun z => st0 ≤ z.1 ∧ z.1 ≤ z.2 ∧ z.2 ≤ r0 ∧ (z.1 = st0 ∨ ∀ x y, D[z.1 - 1]? = some x → D[n - z.1]? = some y → lt y x = false) ∧ (z.2 = r0 ∨ ∀ x y, D[z.2]? = some x → D[n - 1 - z.2]? = some y → lt y x = true)) (fun z => z.2 - z.1) (st0, r0) (h.keep [0, 1, 2, 3, 4, 18, 19, 20, 21, 22])
       ⟨Nat.le_refl _, by simp only; omega, Nat.le_refl _, .inl rfl, .inl rfl⟩ ?_
     clear h a w; intro z a w hz5 h
     obtain ⟨st, r⟩ := z
     obtain ⟨y1, y2, y3, y4, y5⟩ := hz5
     simp only at y1 y2 y3 y4 y5 h
     as_aux_lemma =>
      refine c_seq ?_
      refine c_seq (c_region ?_)
      refine wv h (r_move h rfl) rfl ?_
      clear h a w; intro a w h
      refine wv h (r_move h rfl) rfl ?_
      clear h a w; intro a w h
      refine wv h (r_bin h rfl rfl (B.lss_int)) rfl ?_
      clear h a w; intro a w h
      refine wnil (c_then ?_)
      refine c_condP (p := st < r) h rfl (by simp) (fun ht10 => ?_) (fun ht10 => ?_)
      ·
       obtain ⟨c, hc⟩ : ∃ c, c = (st + r) / 2 := ⟨_, rfl⟩
       obtain ⟨x, hx⟩ : ∃ x, D[c]? = some x := ⟨_, List.getElem?_eq_getElem (by omega)⟩
       obtain ⟨y, hy⟩ : ∃ y, D[n - 1 - c]? = some y := ⟨_, List.getElem?_eq_getElem (by omega)⟩
       refine c_skip ?_
       refine c_then ?_
       refine c_block ?_
       refine c_seq (c_region ?_)
       refine wv h (r_move h rfl) rfl ?_
       clear h a w; intro a w h
       refine wv h (r_move h rfl) rfl ?_
       clear h a w; intro a w h
       refine wv h (r_bin h rfl rfl (B.add_i64 (by omega) (by omega))) rfl ?_
       clear h a w; intro a w h
       refine wv h (r_conv h rfl K.u_int K.u_uint (C.u64_i64) ) rfl ?_
       clear h a w; intro a w h
       refine wv h (r_bin h rfl rfl (B.shr_u64 (by decide))) rfl ?_
       clear h a w; intro a w h
       refine wv h (r_conv h rfl K.u_uint K.u_int (C.i64_u64 (by rw [mid_u (st) (r) (by omega)]; omega))) rfl ?_
       clear h a w; intro a w h
       rw [mid_u (st) (r) (by omega)] at h
       rw [← hc] at h
       refine wv h (r_assign h rfl) rfl ?_
       clear h a w; intro a w h
       refine wnil (c_then ?_)
       refine c_seq (c_draw K.mixed (by kernel_rfl) h ?_)
       clear h a w; intro a hE
       refine qv hE (fun w hw => r_move ⟨hE, hw⟩ rfl) rfl ?_
       clear hE a; intro a hE
       refine qv hE (fun w hw => r_move ⟨hE, hw⟩ rfl) rfl ?_
       clear hE a; intro a hE
       refine qv hE (fun w hw => r_move ⟨hE, hw⟩ rfl) rfl ?_
       clear hE a; intro a hE
       refine qv hE (fun w hw => r_move ⟨hE, hw⟩ rfl) rfl ?_
       clear hE a; intro a hE
       refine qv hE (fun w hw => r_bin ⟨hE, hw⟩ rfl rfl (B.sub_i64 (by omega) (by omega))) rfl ?_
       clear hE a; intro a hE
       refine qv hE (fun w hw => r_elPs ⟨hE, hw⟩ rfl rfl K.u_S_pack_item K.sz_pack_item hsp (n - 1 - c) (by omega) (by omega)) rfl ?_
       clear hE a; intro a hE
       refine qv hE (fun w hw => r_elM (cells := cellsI) ⟨hE, hw⟩ rfl K.u_pack_item rfl K.sz_pack_item rfl (Views.own 0 rfl) hy) rfl ?_
       clear hE a; intro a hE
       refine qv hE (fun w hw => r_move ⟨hE, hw⟩ rfl) rfl ?_
       clear hE a; intro a hE
       refine qv hE (fun w hw => r_move ⟨hE, hw⟩ rfl) rfl ?_
       clear hE a; intro a hE
       refine qv hE (fun w hw => r_elPs ⟨hE, hw⟩ rfl rfl K.u_S_pack_item K.sz_pack_item hsp (c) rfl (by omega)) rfl ?_
       clear hE a; intro a hE
       refine qv hE (fun w hw => r_elM (cells := cellsI) ⟨hE, hw⟩ rfl K.u_pack_item rfl K.sz_pack_item rfl (Views.own 0 rfl) hx) rfl ?_
       clear hE a; intro a hE
       refine q_callV (fs := #[]) (cs := #[]) hE rfl (vs := [itV y, itV x]) rfl K.go_pack_sorted_1 (fun w hw => srt_call s w y x _ hw) rfl ?_
       clear hE a; intro a hE
       refine qv hE (fun w hw => r_bin ⟨hE, hw⟩ rfl rfl (B.lss_int)) rfl ?_
       clear hE a; intro a hE
       rw [cmp_lt] at hE
       refine qv hE (fun w hw => r_not ⟨hE, hw⟩ rfl) rfl ?_
       clear hE a; intro a hE
       refine qnil hE ?_
       clear hE a; intro a w h
       refine c_then ?_
       refine c_cond h rfl (fun ht11 => ?_) (fun ht11 => ?_)
       ·
        as_aux_lemma =>
         refine c_region ?_
         refine wv h (r_move h rfl) rfl ?_
         clear h a w; intro a w h
         refine wv h (r_bin h rfl rfl (B.add_i64 (by omega) (by omega))) rfl ?_
         clear h a w; intro a w h
         refine wv h (r_assign h rfl) rfl ?_
         clear h a w; intro a w h
         refine wnil ?_
         refine b_normal ?_
         exact ⟨(c + 1, r), h.keep [0, 1, 2, 3, 4, 18, 19, 20, 21, 22], ⟨by simp only; omega, by simp only; omega, y3, .inr (fun x' y' hx' hy' => by
           simp only [Nat.add_sub_cancel] at hx'
           rw [hx] at hx'; cases hx'
           simp only [show n - (c + 1) = n - 1 - c by omega] at hy'
           rw [hy] at hy'; cases hy'
           simpa using ht11), y5⟩, by simp only; omega⟩
       ·
        refine c_region ?_
        refine wv h (r_move h rfl) rfl ?_
        clear h a w; intro a w h
        refine wv h (r_assign h rfl) rfl ?_
        clear h a w; intro a w h
        refine wnil ?_
        refine b_normal ?_
        exact ⟨(st, c), h.keep [0, 1, 2, 3, 4, 18, 19, 20, 21, 22], ⟨y1, by simp only; omega, by simp only; omega, y4, .inr (fun x' y' hx' hy' => by
          simp only at hx' hy'
          rw [hx] at hx'; cases hx'
          rw [hy] at hy'; cases hy'
          simpa using ht11)⟩, by simp only; omega⟩
      ·
       obtain rfl : st = r := by omega
       obtain ⟨A1, U, V1, B2, eA, eB, l1, l2, l3, l4, l5, eF⟩ := sym_plan hD ha hm hb hmi hn hz y1 y3 y4 y5 hA hB
       have hD2 : D = P0 ++ A1 ++ U ++ V1 ++ (B2 ++ Q0) := by rw [hD, eA, eB]; simp
       have sA : Srt (A1 ++ U) := by rw [← eA]; exact hA
       have sB : Srt (V1 ++ B2) := by rw [← eB]; exact hB
       have lA : As.length = A1.length + U.length := by rw [eA, List.length_append]
       have lB : Bs.length = V1.length + B2.length := by rw [eB, List.length_append]
       obtain ⟨en, hen⟩ : ∃ en, en = n - st := ⟨_, rfl⟩
       rw [← hen] at l3 l4
       rw [hD2] at h
       refine c_exit ?_
       refine e_then ?_
       refine e_then ?_
       refine e_here ?_
       refine c_then ?_
       refine c_seq (c_region ?_)
       refine wv h (r_move h rfl) rfl ?_
       clear h a w; intro a w h
       refine wv h (r_move h rfl) rfl ?_
       clear h a w; intro a w h
       refine wv h (r_bin h rfl rfl (B.sub_i64 (by omega) (by omega))) rfl ?_
       clear h a w; intro a w h
       rw [show ((n : Int) - (st : Int)) = (en : Int) by omega] at h
       refine wv h (r_assign h rfl) rfl ?_
       clear h a w; intro a w h
       refine wnil (c_then ?_)
       refine c_meet h (X := Unit) (fun _ => [(0, v), (1, .int .i64 (a0 : Int)), (2, .int .i64 (m : Int)), (3, .int .i64 (b0 : Int)), (4, .func (.func n_pack_sorted_1) #[] #[]), (18, .int .i64 (mi : Int)), (20, .int .i64 (st : Int)), (24, .int .i64 (en : Int))]) (fun _ => OwnM 33 cellsI v (P0 ++ A1 ++ V1 ++ U ++ (B2 ++ Q0)) :: F) (fun _ => True) ?_ ?_
       ·
        refine c_seq (c_region ?_)
        refine wv h (r_move h rfl) rfl ?_
        clear h a w; intro a w h
        refine wv h (r_move h rfl) rfl ?_
        clear h a w; intro a w h
        refine wv h (r_bin h rfl rfl (B.lss_int)) rfl ?_
        clear h a w; intro a w h
        refine wv h (r_move h rfl) rfl ?_
        clear h a w; intro a w h
        refine wvG h (by first | exact .t rfl | exact .f rfl | exact .gt rfl | exact .gf rfl) (fun hg => by (try simp only [↓gval_on hg, ↓gval_and hg] at h); (have hg2 := hg; (try simp only [Bool.and_eq_true, Bool.or_eq_true, Bool.not_eq_true', decide_eq_true_eq, decide_eq_false_iff_not] at hg2)); first | exact r_move h rfl) rfl ?_
        clear h a w; intro a w h
        refine wvG h (by first | exact .t rfl | exact .f rfl | exact .gt rfl | exact .gf rfl) (fun hg => by (try simp only [↓gval_on hg, ↓gval_and hg] at h); (have hg2 := hg; (try simp only [Bool.and_eq_true, Bool.or_eq_true, Bool.not_eq_true', decide_eq_true_eq, decide_eq_false_iff_not] at hg2)); first | exact r_move h rfl) rfl ?_
        clear h a w; intro a w h
        refine wvG h (by first | exact .t rfl | exact .f rfl | exact .gt rfl | exact .gf rfl) (fun hg => by (try simp only [↓gval_on hg, ↓gval_and hg] at h); (have hg2 := hg; (try simp only [Bool.and_eq_true, Bool.or_eq_true, Bool.not_eq_true', decide_eq_true_eq, decide_eq_false_iff_not] at hg2)); first | exact r_bin h rfl rfl (B.lss_int)) rfl ?_
        clear h a w; intro a w h
        first
                | (refine wv h (r_pickA h rfl rfl rfl) rfl ?_)
                | (refine wv h (r_pickO h rfl rfl rfl) rfl ?_)
                | (refine wv h (r_pick_true h rfl rfl) rfl ?_)
                | (refine wv h (r_pick_false h rfl rfl) rfl ?_)
                | (refine wv h (r_pick h rfl rfl rfl) rfl ?_)
        clear h a w; intro a w h
        refine wnil (c_then ?_)
        refine c_condP (p := 0 < U.length ∧ 0 < V1.length) h rfl (by simp; omega) (fun ht12 => ?_) (fun ht12 => ?_)
        ·
         as_aux_lemma =>
          refine c_region ?_
          refine wv h (r_move h rfl) rfl ?_
          clear h a w; intro a w h
          refine wv h (r_move h rfl) rfl ?_
          clear h a w; intro a w h
          refine wv h (r_move h rfl) rfl ?_
          clear h a w; intro a w h
          refine wv h (r_move h rfl) rfl ?_
          clear h a w; intro a w h
          refine wv h (r_move h rfl) rfl ?_
          clear h a w; intro a w h
          refine wl rfl (op_call h rfl K.go_slices_rotateCmpFunc_pack_item (sl_rotate s _ v _ (P0 ++ A1) U V1 (B2 ++ Q0) st m en _ ht12.1 ht12.2 (by rw [List.length_append]; omega) (by rw [List.length_append]; omega) (by omega) (by simp only [List.length_append]; omega) h.2) rfl ?_)
          clear h a w; intro z191 a w hz191 h
          (try simp only [List.set_cons_zero, List.set_cons_succ] at h)
          refine wnil ?_
          exact ⟨(), h.keep [0, 1, 2, 3, 4, 18, 20, 24], trivial⟩
        ·
         refine c_skip ?_
         have e : P0 ++ A1 ++ U ++ V1 ++ (B2 ++ Q0) = P0 ++ A1 ++ V1 ++ U ++ (B2 ++ Q0) := by
           rcases Nat.eq_zero_or_pos U.length with e | e
           · rw [List.eq_nil_of_length_eq_zero e]; simp
           · have e2 : V1.length = 0 := by omega
             rw [List.eq_nil_of_length_eq_zero e2]; simp
         rw [e] at h
         exact ⟨(), h.keep [0, 1, 2, 3, 4, 18, 20, 24], trivial⟩
       ·
        clear h a w; intro z a w hz h
        rw [show P0 ++ A1 ++ V1 ++ U ++ (B2 ++ Q0) = P0 ++ A1 ++ V1 ++ (U ++ (B2 ++ Q0)) by simp] at h
        refine c_meet h (X := Unit) (fun _ => [(0, v), (1, .int .i64 (a0 : Int)), (2, .int .i64 (m : Int)), (3, .int .i64 (b0 : Int)), (4, .func (.func n_pack_sorted_1) #[] #[]), (18, .int .i64 (mi : Int)), (20, .int .i64 (st : Int)), (24, .int .i64 (en : Int))]) (fun _ => OwnM 33 cellsI v (P0 ++ isort (A1 ++ V1) ++ (U ++ (B2 ++ Q0))) :: F) (fun _ => True) ?_ ?_
        ·
         refine c_seq (c_region ?_)
         refine wv h (r_move h rfl) rfl ?_
         clear h a w; intro a w h
         refine wv h (r_move h rfl) rfl ?_
         clear h a w; intro a w h
         refine wv h (r_bin h rfl rfl (B.lss_int)) rfl ?_
         clear h a w; intro a w h
         refine wv h (r_move h rfl) rfl ?_
         clear h a w; intro a w h
         refine wvG h (by first | exact .t rfl | exact .f rfl | exact .gt rfl | exact .gf rfl) (fun hg => by (try simp only [↓gval_on hg, ↓gval_and hg] at h); (have hg2 := hg; (try simp only [Bool.and_eq_true, Bool.or_eq_true, Bool.not_eq_true', decide_eq_true_eq, decide_eq_false_iff_not] at hg2)); first | exact r_move h rfl) rfl ?_
         clear h a w; intro a w h
         refine wvG h (by first | exact .t rfl | exact .f rfl | exact .gt rfl | exact .gf rfl) (fun hg => by (try simp only [↓gval_on hg, ↓gval_and hg] at h); (have hg2 := hg; (try simp only [Bool.and_eq_true, Bool.or_eq_true, Bool.not_eq_true', decide_eq_true_eq, decide_eq_false_iff_not] at hg2)); first | exact r_move h rfl) rfl ?_
         clear h a w; intro a w h
         refine wvG h (by first | exact .t rfl | exact .f rfl | exact .gt rfl | exact .gf rfl) (fun hg => by (try simp only [↓gval_on hg, ↓gval_and hg] at h); (have hg2 := hg; (try simp only [Bool.and_eq_true, Bool.or_eq_true, Bool.not_eq_true', decide_eq_true_eq, decide_eq_false_iff_not] at hg2)); first | exact r_bin h rfl rfl (B.lss_int)) rfl ?_
         clear h a w; intro a w h
         first
                  | (refine wv h (r_pickA h rfl rfl rfl) rfl ?_)
                  | (refine wv h (r_pickO h rfl rfl rfl) rfl ?_)
                  | (refine wv h (r_pick_true h rfl rfl) rfl ?_)
                  | (refine wv h (r_pick_false h rfl rfl) rfl ?_)
                  | (refine wv h (r_pick h rfl rfl rfl) rfl ?_)
         clear h a w; intro a w h
         refine wnil (c_then ?_)
         refine c_condP (p := 0 < A1.length ∧ 0 < V1.length) h rfl (by simp; omega) (fun ht13 => ?_) (fun ht13 => ?_)
         ·
          as_aux_lemma =>
           refine c_region ?_
           refine wv h (r_move h rfl) rfl ?_
           clear h a w; intro a w h
           refine wv h (r_move h rfl) rfl ?_
           clear h a w; intro a w h
           refine wv h (r_move h rfl) rfl ?_
           clear h a w; intro a w h
           refine wv h (r_move h rfl) rfl ?_
           clear h a w; intro a w h
           refine wv h (r_move h rfl) rfl ?_
           clear h a w; intro a w h
           refine wl rfl (op_call h rfl K.go_slices_symMergeCmpFunc_pack_item (ih s _ P0 A1 V1 (U ++ (B2 ++ Q0)) a0 st mi _ (by omega) ht13.1 ht13.2 sA.left sB.left ha (by omega) (by omega) (by simp only [List.length_append]; omega) h.2) rfl ?_)
           clear h a w; intro z205 a w hz205 h
           (try simp only [List.set_cons_zero, List.set_cons_succ] at h)
           refine wnil ?_
           exact ⟨(), h.keep [0, 1, 2, 3, 4, 18, 20, 24], trivial⟩
         ·
          refine c_skip ?_
          have e : P0 ++ A1 ++ V1 ++ (U ++ (B2 ++ Q0)) = P0 ++ isort (A1 ++ V1) ++ (U ++ (B2 ++ Q0)) := by
            rcases Nat.eq_zero_or_pos A1.length with e | e
            · rw [List.eq_nil_of_length_eq_zero e, List.nil_append, isort_id sB.left]; simp
            · have e2 : V1.length = 0 := by omega
              rw [List.eq_nil_of_length_eq_zero e2, List.append_nil A1, isort_id sA.left]; simp
          rw [e] at h
          exact ⟨(), h.keep [0, 1, 2, 3, 4, 18, 20, 24], trivial⟩
        ·
         clear h a w; intro z a w hz h
         rw [show P0 ++ isort (A1 ++ V1) ++ (U ++ (B2 ++ Q0)) = (P0 ++ isort (A1 ++ V1)) ++ U ++ B2 ++ Q0 by simp] at h
         have li := isort_len (A1 ++ V1)
         rw [List.length_append] at li
         refine c_seq (c_region ?_)
         refine wv h (r_move h rfl) rfl ?_
         clear h a w; intro a w h
         refine wv h (r_move h rfl) rfl ?_
         clear h a w; intro a w h
         refine wv h (r_bin h rfl rfl (B.lss_int)) rfl ?_
         clear h a w; intro a w h
         refine wv h (r_move h rfl) rfl ?_
         clear h a w; intro a w h
         refine wvG h (by first | exact .t rfl | exact .f rfl | exact .gt rfl | exact .gf rfl) (fun hg => by (try simp only [↓gval_on hg, ↓gval_and hg] at h); (have hg2 := hg; (try simp only [Bool.and_eq_true, Bool.or_eq_true, Bool.not_eq_true', decide_eq_true_eq, decide_eq_false_iff_not] at hg2)); first | exact r_move h rfl) rfl ?_
         clear h a w; intro a w h
         refine wvG h (by first | exact .t rfl | exact .f rfl | exact .gt rfl | exact .gf rfl) (fun hg => by (try simp only [↓gval_on hg, ↓gval_and hg] at h); (have hg2 := hg; (try simp only [Bool.and_eq_true, Bool.or_eq_true, Bool.not_eq_true', decide_eq_true_eq, decide_eq_false_iff_not] at hg2)); first | exact r_move h rfl) rfl ?_
         clear h a w; intro a w h
         refine wvG h (by first | exact .t rfl | exact .f rfl | exact .gt rfl | exact .gf rfl) (fun hg => by (try simp only [↓gval_on hg, ↓gval_and hg] at h); (have hg2 := hg; (try simp only [Bool.and_eq_true, Bool.or_eq_true, Bool.not_eq_true', decide_eq_true_eq, decide_eq_false_iff_not] at hg2)); first | exact r_bin h rfl rfl (B.lss_int)) rfl ?_
         clear h a w; intro a w h
         first
                  | (refine wv h (r_pickA h rfl rfl rfl) rfl ?_)
                  | (refine wv h (r_pickO h rfl rfl rfl) rfl ?_)
                  | (refine wv h (r_pick_true h rfl rfl) rfl ?_)
                  | (refine wv h (r_pick_false h rfl rfl) rfl ?_)
                  | (refine wv h (r_pick h rfl rfl rfl) rfl ?_)
         clear h a w; intro a w h
         refine wnil (c_then ?_)
         refine c_condP (p := 0 < U.length ∧ 0 < B2.length) h rfl (by simp; omega) (fun ht14 => ?_) (fun ht14 => ?_)
         ·
          as_aux_lemma =>
           refine c_region ?_
           refine wv h (r_move h rfl) rfl ?_
           clear h a w; intro a w h
           refine wv h (r_move h rfl) rfl ?_
           clear h a w; intro a w h
           refine wv h (r_move h rfl) rfl ?_
           clear h a w; intro a w h
           refine wv h (r_move h rfl) rfl ?_
           clear h a w; intro a w h
           refine wv h (r_move h rfl) rfl ?_
           clear h a w; intro a w h
           refine wl rfl (op_call h rfl K.go_slices_symMergeCmpFunc_pack_item (ih s _ (P0 ++ isort (A1 ++ V1)) U B2 Q0 mi en b0 _ (by omega) ht14.1 ht14.2 sA.right sB.right (by rw [List.length_append]; omega) (by rw [List.length_append]; omega) (by omega) (by simp only [List.length_append]; omega) h.2) rfl ?_)
           clear h a w; intro z219 a w hz219 h
           (try simp only [List.set_cons_zero, List.set_cons_succ] at h)
           refine wnil ?_
           rw [List.append_assoc P0, eF] at h
           exact end0 h rfl ⟨(), rfl, h.2, trivial⟩
         ·
          refine c_skip ?_
          have e : (P0 ++ isort (A1 ++ V1)) ++ U ++ B2 ++ Q0 = P0 ++ isort (As ++ Bs) ++ Q0 := by
            rw [← eF]
            rcases Nat.eq_zero_or_pos U.length with e | e
            · rw [List.eq_nil_of_length_eq_zero e, List.nil_append, isort_id sB.right]; simp
            · have e2 : B2.length = 0 := by omega
              rw [List.eq_nil_of_length_eq_zero e2, List.append_nil U, isort_id sA.right]; simp
          rw [e] at h
          exact end0 h rfl ⟨(), rfl, h.2, trivial⟩
theorem sl_symMerge (v : Value) : ∀ N, SymI v N
  | 0 => fun s w P0 As Bs Q0 a0 m b0 F hN hA hB _ _ _ _ _ _ _ => by omega
  | N + 1 => symStep v N (sl_symMerge v N)
end Go.Proofs.K

/- Stable sorting of items, whole. -/
namespace Go.Proofs.K
open Go.Sl
attribute [local irreducible] Go.Sl.Own Go.Sl.Blk Go.Sl.Sep Go.Sl.Ex Go.Sl.Fact
theorem sl_stable (s w : World) (v : Value) (l : List ItV) (F : List HItem) (hl : l.length ≤ 4000000) (hs : Sat s w (OwnM 33 cellsI v l :: F)) :
    Calls P n_slices_stableCmpFunc_pack_item #[v, .int .i64 (l.length : Int), cmpV] w (Ret s (fun _ : Unit => .tuple #[]) (fun _ => OwnM 33 cellsI v (isort l) :: F) (fun _ => True)) := by
  refine enter K.fn_slices_stableCmpFunc_pack_item rfl K.nt_slices_stableCmpFunc_pack_item rfl hs ?_
  clear hs w; intro a w h
  unfold cmpV at h
  refine c_seq (c_region ?_)
  refine wv h (r_assign h rfl) rfl ?_
  clear h a w; intro a w h
  refine wnil (c_then ?_)
  refine c_seq (c_region ?_)
  refine wv h (r_move h rfl) rfl ?_
  clear h a w; intro a w h
  refine wv h (r_assign h rfl) rfl ?_
  clear h a w; intro a w h
  refine wv h (r_assign h rfl) rfl ?_
  clear h a w; intro a w h
  refine wnil (c_then ?_)
  refine c_seq ?_
  refine c_block ?_
  refine c_loop (X := List ItV × List ItV) (fun z => [(0, v), (1, .int .i64 (l.length : Int)), (2, .func (.func n_pack_sorted_1) #[] #[]), (6, .int .i64 20), (7, .int .i64 (z.1.length : Int)), (8, .int .i64 ((z.1.length + 20 : Nat) : Int))]) (fun z => OwnM 33 cellsI v (z.1 ++ z.2) :: F)
    (fun z => FB 20 z.1 ∧ Stb l (z.1 ++ z.2) ∧ z.1.length + z.2.length = l.length) (fun z => z.2.length) ([], l) (h.keep [0, 1, 2, 6, 7, 8]) ⟨FB.nil 20, .refl _, by simp⟩ ?_
  clear h a w; intro z a w hz h
  obtain ⟨P1, R1⟩ := z
  obtain ⟨z1, z2, z3⟩ := hz
  simp only at z1 z2 z3 h
  as_aux_lemma =>
   refine c_seq ?_
   refine c_seq (c_region ?_)
   refine wv h (r_move h rfl) rfl ?_
   clear h a w; intro a w h
   refine wv h (r_move h rfl) rfl ?_
   clear h a w; intro a w h
   refine wv h (r_bin h rfl rfl (B.leq_int)) rfl ?_
   clear h a w; intro a w h
   refine wnil (c_then ?_)
   refine c_condP (p := 20 ≤ R1.length) h rfl (by simp; omega) (fun ht1 => ?_) (fun ht1 => ?_)
   ·
    obtain ⟨M, hM⟩ : ∃ M, M = R1.take 20 := ⟨_, rfl⟩
    obtain ⟨Q, hQ⟩ : ∃ Q, Q = R1.drop 20 := ⟨_, rfl⟩
    have hR : R1 = M ++ Q := by rw [hM, hQ, List.take_append_drop]
    have hMl : M.length = 20 := by rw [hM, List.length_take]; omega
    have hRl : R1.length = M.length + Q.length := by rw [hR, List.length_append]
    rw [hR, ← List.append_assoc] at h z2
    refine c_skip ?_
    refine c_then ?_
    refine c_block ?_
    refine c_seq (c_region ?_)
    refine wv h (r_move h rfl) rfl ?_
    clear h a w; intro a w h
    refine wv h (r_move h rfl) rfl ?_
    clear h a w; intro a w h
    refine wv h (r_move h rfl) rfl ?_
    clear h a w; intro a w h
    refine wv h (r_move h rfl) rfl ?_
    clear h a w; intro a w h
    refine wl rfl (op_call h rfl K.go_slices_insertionSortCmpFunc_pack_item (sl_insertionSort s _ v P1 M Q P1.length (P1.length + 20) _ rfl (by omega) (by simp only [List.length_append]; omega) h.2) rfl ?_)
    clear h a w; intro z18 a w hz18 h
    (try simp only [List.set_cons_zero, List.set_cons_succ] at h)
    refine wnil (c_then ?_)
    refine c_seq (c_region ?_)
    refine wv h (r_move h rfl) rfl ?_
    clear h a w; intro a w h
    refine wv h (r_assign h rfl) rfl ?_
    clear h a w; intro a w h
    refine wnil (c_then ?_)
    refine c_region ?_
    refine wv h (r_move h rfl) rfl ?_
    clear h a w; intro a w h
    refine wv h (r_move h rfl) rfl ?_
    clear h a w; intro a w h
    refine wv h (r_bin h rfl rfl (B.add_i64 (by omega) (by omega))) rfl ?_
    clear h a w; intro a w h
    refine wv h (r_assign h rfl) rfl ?_
    clear h a w; intro a w h
    refine wnil ?_
    refine b_normal ?_
    have li := isort_len M
    refine ⟨(P1 ++ isort M, Q), ?_, ⟨z1.more (by omega) (isort_srt M), by simpa using z2.mid, by simp only [List.length_append]; omega⟩, by simp only; omega⟩
    have q := h.keep [0, 1, 2, 6, 7, 8]
    show St 63 s a w [(0, v), (1, _), (2, _), (6, _), (7, .int .i64 ((P1 ++ isort M).length : Int)), (8, .int .i64 (((P1 ++ isort M).length + 20 : Nat) : Int))] _
    rw [List.length_append, show P1.length + (isort M).length = P1.length + 20 by omega]
    exact q
   ·
    rw [← List.append_nil (P1 ++ R1)] at h z2
    refine c_exit ?_
    refine e_then ?_
    refine e_then ?_
    refine e_here ?_
    refine c_then ?_
    refine c_seq (c_region ?_)
    refine wv h (r_move h rfl) rfl ?_
    clear h a w; intro a w h
    refine wv h (r_move h rfl) rfl ?_
    clear h a w; intro a w h
    refine wv h (r_move h rfl) rfl ?_
    clear h a w; intro a w h
    refine wv h (r_move h rfl) rfl ?_
    clear h a w; intro a w h
    refine wl rfl (op_call h rfl K.go_slices_insertionSortCmpFunc_pack_item (sl_insertionSort s _ v P1 R1 [] P1.length l.length _ rfl (by omega) (by simp only [List.length_append, List.length_nil]; omega) h.2) rfl ?_)
    clear h a w; intro z27 a w hz27 h
    (try simp only [List.set_cons_zero, List.set_cons_succ] at h)
    refine wnil (c_then ?_)
    refine c_block ?_
    have li := isort_len R1
    have b0 : BL 20 (P1 ++ isort R1) := z1.end (by omega) (isort_srt R1)
    have b1 : Stb l (P1 ++ isort R1) := by simpa using z2.mid
    rw [List.append_nil] at h
    refine c_loop (X := Nat × List ItV) (fun z => [(0, v), (1, .int .i64 (l.length : Int)), (2, .func (.func n_pack_sorted_1) #[] #[]), (6, .int .i64 (z.1 : Int))]) (fun z => OwnM 33 cellsI v z.2 :: F)
      (fun z => 0 < z.1 ∧ z.1 ≤ 8000020 ∧ BL z.1 z.2 ∧ Stb l z.2 ∧ z.2.length = l.length) (fun z => l.length - z.1) (20, P1 ++ isort R1) (h.keep [0, 1, 2, 6]) ⟨by simp only; omega, by simp only; omega, b0, b1, by simp only [List.length_append]; omega⟩ ?_
    clear h a w; intro z a w hz h
    obtain ⟨k, D⟩ := z
    obtain ⟨k0, k1, k2, k3, k4⟩ := hz
    simp only at k0 k1 k2 k3 k4 h
    as_aux_lemma =>
     refine c_seq ?_
     refine c_seq (c_region ?_)
     refine wv h (r_move h rfl) rfl ?_
     clear h a w; intro a w h
     refine wv h (r_move h rfl) rfl ?_
     clear h a w; intro a w h
     refine wv h (r_bin h rfl rfl (B.lss_int)) rfl ?_
     clear h a w; intro a w h
     refine wnil (c_then ?_)
     refine c_condP (p := k < l.length) h rfl (by simp) (fun ht2 => ?_) (fun ht2 => ?_)
     ·
      obtain ⟨Ls, R, eD, hL, hRk, hRs⟩ := k2
      rw [eD] at h k3 k4
      rw [List.length_append] at k4
      refine c_skip ?_
      refine c_then ?_
      refine c_block ?_
      refine c_seq (c_region ?_)
      refine wv h (r_move h rfl) rfl ?_
      clear h a w; intro a w h
      refine wv h (r_bin h rfl rfl (B.mul_i64 (by omega) (by omega))) rfl ?_
      clear h a w; intro a w h
      rw [show (2 * (k : Int)) = ((0 + 2 * k : Nat) : Int) by omega] at h
      refine wv h (r_assign h rfl) rfl ?_
      clear h a w; intro a w h
      refine wv h (r_assign h rfl) rfl ?_
      clear h a w; intro a w h
      refine wnil (c_then ?_)
      refine c_seq ?_
      refine c_block ?_
      refine c_loop (X := List ItV × List (List ItV)) (fun z => [(0, v), (1, .int .i64 (l.length : Int)), (2, .func (.func n_pack_sorted_1) #[] #[]), (6, .int .i64 (k : Int)), (7, .int .i64 (z.1.length : Int)), (8, .int .i64 ((z.1.length + 2 * k : Nat) : Int))]) (fun z => OwnM 33 cellsI v (z.1 ++ (z.2.flatten ++ R)) :: F)
        (fun z => FB (2 * k) z.1 ∧ (∀ M ∈ z.2, M.length = k ∧ Srt M) ∧ Stb l (z.1 ++ (z.2.flatten ++ R)) ∧ z.1.length + z.2.flatten.length + R.length = l.length) (fun z => z.2.length) ([], Ls) (h.keep [0, 1, 2, 6, 7, 8]) ⟨FB.nil _, hL, k3, by simpa using k4⟩ ?_
      clear h a w; intro z a w hz3 h
      obtain ⟨P2, L2⟩ := z
      obtain ⟨y1, y2, y3, y4⟩ := hz3
      simp only at y1 y2 y3 y4 h
      as_aux_lemma =>
       refine c_seq ?_
       refine c_seq (c_region ?_)
       refine wv h (r_move h rfl) rfl ?_
       clear h a w; intro a w h
       refine wv h (r_move h rfl) rfl ?_
       clear h a w; intro a w h
       refine wv h (r_bin h rfl rfl (B.leq_int)) rfl ?_
       clear h a w; intro a w h
       refine wnil (c_then ?_)
       refine c_condP (p := P2.length + 2 * k ≤ l.length) h rfl (by simp; omega) (fun ht3 => ?_) (fun ht3 => ?_)
       ·
        obtain ⟨M1, M2, L3, eL⟩ : ∃ M1 M2 L3, L2 = M1 :: M2 :: L3 := by
          match L2, y2, y4 with
          | [], _, y4 => simp at y4; omega
          | [M], y2, y4 => have := (y2 M (by simp)).1; simp at y4; omega
          | M1 :: M2 :: L3, _, _ => exact ⟨M1, M2, L3, rfl⟩
        subst eL
        obtain ⟨m1, m1s⟩ := y2 M1 (by simp)
        obtain ⟨m2, m2s⟩ := y2 M2 (by simp)
        have e : P2 ++ ((M1 :: M2 :: L3).flatten ++ R) = P2 ++ M1 ++ M2 ++ (L3.flatten ++ R) := by simp
        have e2 : P2 ++ ((M1 :: M2 :: L3).flatten ++ R) = P2 ++ (M1 ++ M2) ++ (L3.flatten ++ R) := by simp
        rw [e] at h
        rw [e2] at y3
        have y4' : P2.length + (M1.length + (M2.length + L3.flatten.length)) + R.length = l.length := by simpa using y4
        refine c_skip ?_
        refine c_then ?_
        refine c_block ?_
        refine c_seq (c_region ?_)
        refine wv h (r_move h rfl) rfl ?_
        clear h a w; intro a w h
        refine wv h (r_move h rfl) rfl ?_
        clear h a w; intro a w h
        refine wv h (r_move h rfl) rfl ?_
        clear h a w; intro a w h
        refine wv h (r_move h rfl) rfl ?_
        clear h a w; intro a w h
        refine wv h (r_bin h rfl rfl (B.add_i64 (by omega) (by omega))) rfl ?_
        clear h a w; intro a w h
        rw [show ((P2.length : Int) + (k : Int)) = ((P2.length + k : Nat) : Int) by omega] at h
        refine wv h (r_move h rfl) rfl ?_
        clear h a w; intro a w h
        refine wv h (r_move h rfl) rfl ?_
        clear h a w; intro a w h
        refine wl rfl (op_call h rfl K.go_slices_symMergeCmpFunc_pack_item (sl_symMerge v (M1.length + M2.length) s _ P2 M1 M2 (L3.flatten ++ R) P2.length (P2.length + k) (P2.length + 2 * k) _ (Nat.le_refl _) (by omega) (by omega) m1s m2s rfl (by omega) (by omega) (by simp only [List.length_append]; omega) h.2) rfl ?_)
        clear h a w; intro z43 a w hz43 h
        (try simp only [List.set_cons_zero, List.set_cons_succ] at h)
        refine wnil (c_then ?_)
        refine c_seq (c_region ?_)
        refine wv h (r_move h rfl) rfl ?_
        clear h a w; intro a w h
        refine wv h (r_assign h rfl) rfl ?_
        clear h a w; intro a w h
        refine wnil (c_then ?_)
        refine c_region ?_
        refine wv h (r_move h rfl) rfl ?_
        clear h a w; intro a w h
        refine wv h (r_move h rfl) rfl ?_
        clear h a w; intro a w h
        refine wv h (r_bin h rfl rfl (B.mul_i64 (by omega) (by omega))) rfl ?_
        clear h a w; intro a w h
        refine wv h (r_bin h rfl rfl (B.add_i64 (by omega) (by omega))) rfl ?_
        clear h a w; intro a w h
        rw [show (((P2.length + 2 * k : Nat) : Int) + 2 * (k : Int)) = ((P2.length + 2 * k + 2 * k : Nat) : Int) by omega] at h
        refine wv h (r_assign h rfl) rfl ?_
        clear h a w; intro a w h
        refine wnil ?_
        refine b_normal ?_
        have li := isort_len (M1 ++ M2)
        rw [List.length_append] at li
        refine ⟨(P2 ++ isort (M1 ++ M2), L3), ?_, ⟨y1.more (by omega) (isort_srt _), fun M hM => y2 M (by simp [hM]), y3.mid, by simp only [List.length_append]; omega⟩, by simp only [List.length_cons]; omega⟩
        have q := h.keep [0, 1, 2, 6, 7, 8]
        show St 63 s a w [(0, v), (1, _), (2, _), (6, _), (7, .int .i64 ((P2 ++ isort (M1 ++ M2)).length : Int)), (8, .int .i64 (((P2 ++ isort (M1 ++ M2)).length + 2 * k : Nat) : Int))] _
        rw [List.length_append, show P2.length + (isort (M1 ++ M2)).length = P2.length + 2 * k by omega]
        exact q
       ·
        refine c_exit ?_
        refine e_then ?_
        refine e_then ?_
        refine e_here ?_
        refine c_then ?_
        refine c_seq ?_
        refine c_seq (c_region ?_)
        refine wv h (r_move h rfl) rfl ?_
        clear h a w; intro a w h
        refine wv h (r_move h rfl) rfl ?_
        clear h a w; intro a w h
        refine wv h (r_bin h rfl rfl (B.add_i64 (by omega) (by omega))) rfl ?_
        clear h a w; intro a w h
        rw [show ((P2.length : Int) + (k : Int)) = ((P2.length + k : Nat) : Int) by omega] at h
        refine wv h (r_assign h rfl) rfl ?_
        clear h a w; intro a w h
        refine wnil (c_then ?_)
        refine c_seq (c_region ?_)
        refine wv h (r_move h rfl) rfl ?_
        clear h a w; intro a w h
        refine wv h (r_move h rfl) rfl ?_
        clear h a w; intro a w h
        refine wv h (r_bin h rfl rfl (B.lss_int)) rfl ?_
        clear h a w; intro a w h
        refine wnil (c_then ?_)
        refine c_condP (p := P2.length + k < l.length) h rfl (by simp; omega) (fun ht4 => ?_) (fun ht4 => ?_)
        ·
         obtain ⟨M1, eL⟩ : ∃ M1, L2 = [M1] := by
           match L2, y2, y4 with
           | [], _, y4 => simp at y4; omega
           | [M], y2, y4 => exact ⟨M, rfl⟩
           | M1 :: M2 :: L3, y2, y4 => have h1 := (y2 M1 (by simp)).1; have h2 := (y2 M2 (by simp)).1; simp at y4; omega
         subst eL
         obtain ⟨m1, m1s⟩ := y2 M1 (by simp)
         have e : P2 ++ ([M1].flatten ++ R) = P2 ++ M1 ++ R ++ [] := by simp
         have e2 : P2 ++ ([M1].flatten ++ R) = P2 ++ (M1 ++ R) ++ [] := by simp
         rw [e] at h
         rw [e2] at y3
         have y4' : P2.length + M1.length + R.length = l.length := by simpa using y4
         as_aux_lemma =>
          refine c_region ?_
          refine wv h (r_move h rfl) rfl ?_
          clear h a w; intro a w h
          refine wv h (r_move h rfl) rfl ?_
          clear h a w; intro a w h
          refine wv h (r_move h rfl) rfl ?_
          clear h a w; intro a w h
          refine wv h (r_move h rfl) rfl ?_
          clear h a w; intro a w h
          refine wv h (r_move h rfl) rfl ?_
          clear h a w; intro a w h
          refine wl rfl (op_call h rfl K.go_slices_symMergeCmpFunc_pack_item (sl_symMerge v (M1.length + R.length) s _ P2 M1 R [] P2.length (P2.length + k) l.length _ (Nat.le_refl _) (by omega) (by omega) m1s hRs rfl (by omega) (by omega) (by simp only [List.length_append, List.length_nil]; omega) h.2) rfl ?_)
          clear h a w; intro z60 a w hz60 h
          (try simp only [List.set_cons_zero, List.set_cons_succ] at h)
          refine wnil ?_
          refine c_then ?_
          refine c_region ?_
          refine wv h (r_move h rfl) rfl ?_
          clear h a w; intro a w h
          refine wv h (r_bin h rfl rfl (B.mul_i64 (by omega) (by omega))) rfl ?_
          clear h a w; intro a w h
          rw [show ((k : Int) * 2) = ((2 * k : Nat) : Int) by omega] at h
          refine wv h (r_assign h rfl) rfl ?_
          clear h a w; intro a w h
          refine wnil ?_
          refine b_normal ?_
          have li := isort_len (M1 ++ R)
          rw [List.length_append] at li
          rw [List.append_nil] at h
          exact ⟨(2 * k, P2 ++ isort (M1 ++ R)), h.keep [0, 1, 2, 6], ⟨by simp only; omega, by simp only; omega, y1.end (by omega) (isort_srt _), by simpa using y3.mid, by simp only [List.length_append]; omega⟩, by simp only; omega⟩
        ·
         refine c_skip ?_
         refine c_then ?_
         refine c_region ?_
         refine wv h (r_move h rfl) rfl ?_
         clear h a w; intro a w h
         refine wv h (r_bin h rfl rfl (B.mul_i64 (by omega) (by omega))) rfl ?_
         clear h a w; intro a w h
         rw [show ((k : Int) * 2) = ((2 * k : Nat) : Int) by omega] at h
         refine wv h (r_assign h rfl) rfl ?_
         clear h a w; intro a w h
         refine wnil ?_
         refine b_normal ?_
         have hs : Srt (L2.flatten ++ R) ∧ (L2.flatten ++ R).length < 2 * k := by
           match L2, y2, y4 with
           | [], _, y4 => exact ⟨by simpa using hRs, by simp; omega⟩
           | [M], y2, y4 =>
             have h1 := y2 M (by simp)
             simp at y4
             have : R = [] := List.eq_nil_of_length_eq_zero (by omega)
             subst this
             exact ⟨by simpa using h1.2, by simp; omega⟩
           | M1 :: M2 :: L3, y2, y4 => have h1 := (y2 M1 (by simp)).1; have h2 := (y2 M2 (by simp)).1; simp at y4; omega
         exact ⟨(2 * k, P2 ++ (L2.flatten ++ R)), h.keep [0, 1, 2, 6], ⟨by simp only; omega, by simp only; omega, y1.end hs.2 hs.1, y3, by simp only [List.length_append]; omega⟩, by simp only; omega⟩
     ·
      refine c_exit ?_
      refine e_then ?_
      refine e_then ?_
      refine e_here ?_
      have e := sorted_is (k2.whole (by omega)) k3
      rw [e] at h
      exact end0 h rfl ⟨(), rfl, h.2, trivial⟩
theorem sl_SortStable (s w : World) (v : Value) (l : List ItV) (F : List HItem) (hl : l.length ≤ 4000000) (hs : Sat s w (OwnM 33 cellsI v l :: F)) :
    Calls P n_slices_SortStableFunc_pack_item_pack_item #[v, cmpV] w (Ret s (fun _ : Unit => .tuple #[]) (fun _ => OwnM 33 cellsI v (isort l) :: F) (fun _ => True)) := by
  refine enter K.fn_slices_SortStableFunc_pack_item_pack_item rfl K.nt_slices_SortStableFunc_pack_item_pack_item rfl hs ?_
  clear hs w; intro a w h
  refine c_region ?_
  refine wv h (r_move h rfl) rfl ?_
  clear h a w; intro a w h
  refine wv h (r_move h rfl) rfl ?_
  clear h a w; intro a w h
  refine wv h (r_lenV h rfl K.u_S_pack_item (by first | exact Views.own 0 rfl | exact Views.own 1 rfl | exact Views.own 2 rfl | exact Views.own 3 rfl | exact Views.own 4 rfl | exact Views.own 5 rfl | assumption | exact Views.of_drop 1 (by assumption) | exact Views.of_drop 2 (by assumption) | exact Views.of_drop 3 (by assumption) | exact Views.of_drop 4 (by assumption) | exact Views.of_drop 5 (by assumption) | exact Views.of_drop 6 (by assumption) | exact Views.of_drop 7 (by assumption) | exact Views.of_drop 8 (by assumption) | exact Views.of_drop 9 (by assumption) | exact Views.of_drop 10 (by assumption) | exact Views.of_drop 11 (by assumption) | exact Views.of_drop 12 (by assumption))) rfl ?_
  clear h a w; intro a w h
  refine wv h (r_move h rfl) rfl ?_
  clear h a w; intro a w h
  refine wl rfl (op_call h rfl K.go_slices_stableCmpFunc_pack_item (sl_stable s _ v l _ hl h.2) rfl ?_)
  clear h a w; intro x a w hx h
  (try simp only [List.set_cons_zero, List.set_cons_succ] at h)
  refine wnil ?_
  exact end0 h rfl ⟨(), rfl, h.2, trivial⟩
end Go.Proofs.K

/- Of equals the first alone: package slices' CompactFunc at items. -/
namespace Go.Sl
def compL : ItV → List ItV → List ItV
  | _, [] => []
  | p, x :: l => if x.k = p.k then compL x l else x :: compL x l
def comp : List ItV → List ItV
  | [] => []
  | x :: l => x :: compL x l
theorem dropE {l : List ItV} {k : Nat} {y : ItV} (h : l[k]? = some y) : l.drop k = y :: l.drop (k + 1) := by
  obtain ⟨hlt, e⟩ := List.getElem?_eq_some_iff.1 h
  rw [List.drop_eq_getElem_cons hlt, e]
theorem takeE {l : List ItV} {k : Nat} {y : ItV} (h : l[k]? = some y) : l.take (k + 1) = l.take k ++ [y] := by rw [List.take_add_one, h]; rfl
theorem comp_one {l : List ItV} {p : ItV} (h : l[0]? = some p) : comp l = l.take 1 ++ compL p (l.drop 1) := by
  cases l with
  | nil => cases h
  | cons x l => simp at h; subst h; rfl
theorem flatDropI (l : List ItV) (k : Nat) : (l.flatMap cellsI).drop (k * 33) = (l.drop k).flatMap cellsI := by
  induction l generalizing k with
  | nil => simp
  | cons x l ih =>
    cases k with
    | zero => simp
    | succ k => rw [List.drop_succ_cons, ← ih, List.flatMap_cons, show (k + 1) * 33 = 33 + k * 33 by omega, ← List.drop_drop, List.drop_left' (Row.len x)]
theorem flatLenI (l : List ItV) : (l.flatMap cellsI).length = l.length * 33 := by
  induction l with
  | nil => rfl
  | cons x l ih => rw [List.flatMap_cons, List.length_append, ih, Row.len x, List.length_cons]; omega
theorem viewDropI {L : List HItem} {v : Value} {l : List ItV} {k n : Nat} (hv : Views L 33 v l.length (l.flatMap cellsI)) (hn : l.length = n) (hk : k ≤ n) : Views L 33 (subV 33 v k n) (n - k) ((l.drop k).flatMap cellsI) := by
  subst hn
  have := hv.sub (i := k) (j := l.length) hk (Nat.le_refl _)
  rw [flatDropI, List.take_of_length_le (by rw [flatLenI, List.length_drop]; exact Nat.le_refl _)] at this
  exact this
theorem r_elPv {P : Program} {n : Nat} {s w : World} {a : Act} {E : List (Nat × Value)} {L : List HItem} {dst : Option Nat} {ty : TypeId} {pos : String} {aft : Array Edge} {g : Option (Nat × Bool)}
    (h : St n s a w E L) {t el : TypeId} {x ix : Operand} {v : Value} {N size by_ : Nat} {xs : List Value} {k1 : IntKind} {c : Int} (hx : ev E x = some v) (hi : ev E ix = some (.int k1 c)) (hu : P.underlying t = some (.slice el)) (hs : tsz P el = some (size, by_))
    (hv : Views L size v N xs) (j : Nat) (hj : c = (j : Int)) (hlt : j < N) : (execOp a.eval ⟨dst, .indexAddr t x ix, ty, pos, aft, g⟩).run P w = .ok (.value (elP v (j * size))) w := by
  obtain ⟨b, o, cap, rfl, he, _⟩ := (hv _ h.2.2.2.2).elP (by omega)
  exact r_idx h hx hi hu hs rfl j hj hlt
end Go.Sl
namespace Go.Proofs.K
open Go.Sl
attribute [local irreducible] Go.Sl.Own Go.Sl.Blk Go.Sl.Sep Go.Sl.Ex Go.Sl.Fact
theorem srt_call2 (s w : World) (x y : ItV) (F : List HItem) (hs : Sat s w F) :
    Calls P n_pack_sorted_2 (#[] ++ [itV x, itV y].toArray ++ #[]) w (Ret s (fun _ : Unit => .bool (decide (x.k = y.k))) (fun _ => F) (fun _ => True)) := srt_2 s w x y F hs
def eqV : Value := .func (.func n_pack_sorted_2) #[] #[]
theorem sl_Compact (s w : World) (v : Value) (l : List ItV) (F : List HItem) (hl : l.length ≤ 4000000) (hs : Sat s w (OwnM 33 cellsI v l :: F)) :
    Calls P n_slices_CompactFunc_pack_item_pack_item #[v, eqV] w (Ret s (fun v' : Value => v') (fun v' => OwnM 33 cellsI v' (comp l) :: F) (fun _ => True)) := by
  refine enter K.fn_slices_CompactFunc_pack_item_pack_item rfl K.nt_slices_CompactFunc_pack_item_pack_item rfl hs ?_
  clear hs w; intro a w h
  unfold eqV at h
  refine c_seq (c_region ?_)
  refine wv h (r_assign h rfl) rfl ?_
  clear h a w; intro a w h
  refine wnil (c_then ?_)
  refine c_seq ?_
  refine c_seq (c_region ?_)
  refine wv h (r_move h rfl) rfl ?_
  clear h a w; intro a w h
  refine wv h (r_lenV h rfl K.u_S_pack_item (by first | exact Views.own 0 rfl | exact Views.own 1 rfl | exact Views.own 2 rfl | exact Views.own 3 rfl | exact Views.own 4 rfl | exact Views.own 5 rfl | assumption | exact Views.of_drop 1 (by assumption) | exact Views.of_drop 2 (by assumption) | exact Views.of_drop 3 (by assumption) | exact Views.of_drop 4 (by assumption) | exact Views.of_drop 5 (by assumption) | exact Views.of_drop 6 (by assumption) | exact Views.of_drop 7 (by assumption) | exact Views.of_drop 8 (by assumption) | exact Views.of_drop 9 (by assumption) | exact Views.of_drop 10 (by assumption) | exact Views.of_drop 11 (by assumption) | exact Views.of_drop 12 (by assumption))) rfl ?_
  clear h a w; intro a w h
  refine wv h (r_bin h rfl rfl (B.lss_int)) rfl ?_
  clear h a w; intro a w h
  refine wnil (c_then ?_)
  refine c_condP (p := l.length < 2) h rfl (by simp; omega) (fun ht1 => ?_) (fun ht1 => ?_)
  ·
   as_aux_lemma =>
    refine c_seq (c_region ?_)
    refine wv h (r_move h rfl) rfl ?_
    clear h a w; intro a w h
    refine wv h (r_assign h rfl) rfl ?_
    clear h a w; intro a w h
    refine wnil (c_then ?_)
    refine c_ret ?_
    have e : comp l = l := by
      match l, ht1 with
      | [], _ => rfl
      | [x], _ => rfl
    exact ret1 h rfl rfl ⟨v, rfl, by rw [e]; exact h.2, trivial⟩
  ·
   refine c_skip ?_
   refine c_then ?_
   refine c_seq ?_
   refine c_seq (c_region ?_)
   refine wv h (r_assign h rfl) rfl ?_
   clear h a w; intro a w h
   refine wnil (c_then ?_)
   refine c_block ?_
   refine c_loop (X := Nat) (fun k => [(0, v), (1, .func (.func n_pack_sorted_2) #[] #[]), (5, .int .i64 (k : Int))]) (fun _ => OwnM 33 cellsI v l :: F) (fun k => 1 ≤ k ∧ k ≤ l.length ∧ ∀ p, l[k - 1]? = some p → comp l = l.take k ++ compL p (l.drop k)) (fun k => l.length - k) 1 (h.keep [0, 1, 5]) ⟨Nat.le_refl _, by omega, fun p hp => comp_one hp⟩ ?_
   clear h a w; intro k a w hk h
   obtain ⟨k1, k2, k3⟩ := hk
   obtain ⟨p, hp⟩ : ∃ p, l[k - 1]? = some p := ⟨_, List.getElem?_eq_getElem (by omega)⟩
   have k4 := k3 p hp
   as_aux_lemma =>
    refine c_seq ?_
    refine c_seq (c_region ?_)
    refine wv h (r_move h rfl) rfl ?_
    clear h a w; intro a w h
    refine wv h (r_move h rfl) rfl ?_
    clear h a w; intro a w h
    refine wv h (r_lenV h rfl K.u_S_pack_item (by first | exact Views.own 0 rfl | exact Views.own 1 rfl | exact Views.own 2 rfl | exact Views.own 3 rfl | exact Views.own 4 rfl | exact Views.own 5 rfl | assumption | exact Views.of_drop 1 (by assumption) | exact Views.of_drop 2 (by assumption) | exact Views.of_drop 3 (by assumption) | exact Views.of_drop 4 (by assumption) | exact Views.of_drop 5 (by assumption) | exact Views.of_drop 6 (by assumption) | exact Views.of_drop 7 (by assumption) | exact Views.of_drop 8 (by assumption) | exact Views.of_drop 9 (by assumption) | exact Views.of_drop 10 (by assumption) | exact Views.of_drop 11 (by assumption) | exact Views.of_drop 12 (by assumption))) rfl ?_
    clear h a w; intro a w h
    refine wv h (r_bin h rfl rfl (B.lss_int)) rfl ?_
    clear h a w; intro a w h
    refine wnil (c_then ?_)
    refine c_condP (p := k < l.length) h rfl (by simp) (fun ht2 => ?_) (fun ht2 => ?_)
    ·
     obtain ⟨y, hy⟩ : ∃ y, l[k]? = some y := ⟨_, List.getElem?_eq_getElem ht2⟩
     have hsp : Shp v l.length := Sat.shp h.2 (by omega)
     have dy := dropE hy
     rw [dy, compL] at k4
     refine c_skip ?_
     refine c_then ?_
     refine c_seq ?_
     refine c_block ?_
     refine c_seq (c_draw K.mixed (by kernel_rfl) h ?_)
     clear h a w; intro a hE
     refine qv hE (fun w hw => r_move ⟨hE, hw⟩ rfl) rfl ?_
     clear hE a; intro a hE
     refine qv hE (fun w hw => r_move ⟨hE, hw⟩ rfl) rfl ?_
     clear hE a; intro a hE
     refine qv hE (fun w hw => r_move ⟨hE, hw⟩ rfl) rfl ?_
     clear hE a; intro a hE
     refine qv hE (fun w hw => r_elPs ⟨hE, hw⟩ rfl rfl K.u_S_pack_item K.sz_pack_item hsp k rfl ht2) rfl ?_
     clear hE a; intro a hE
     refine qv hE (fun w hw => r_elM (cells := cellsI) ⟨hE, hw⟩ rfl K.u_pack_item rfl K.sz_pack_item rfl (Views.own 0 rfl) hy) rfl ?_
     clear hE a; intro a hE
     refine qv hE (fun w hw => r_move ⟨hE, hw⟩ rfl) rfl ?_
     clear hE a; intro a hE
     refine qv hE (fun w hw => r_move ⟨hE, hw⟩ rfl) rfl ?_
     clear hE a; intro a hE
     refine qv hE (fun w hw => r_bin ⟨hE, hw⟩ rfl rfl (B.sub_i64 (by omega) (by omega))) rfl ?_
     clear hE a; intro a hE
     refine qv hE (fun w hw => r_elPs ⟨hE, hw⟩ rfl rfl K.u_S_pack_item K.sz_pack_item hsp (k - 1) (by omega) (by omega)) rfl ?_
     clear hE a; intro a hE
     refine qv hE (fun w hw => r_elM (cells := cellsI) ⟨hE, hw⟩ rfl K.u_pack_item rfl K.sz_pack_item rfl (Views.own 0 rfl) hp) rfl ?_
     clear hE a; intro a hE
     refine q_callV (fs := #[]) (cs := #[]) hE rfl (vs := [itV y, itV p]) rfl K.go_pack_sorted_2 (fun w hw => srt_call2 s w y p _ hw) rfl ?_
     clear hE a; intro a hE
     refine qnil hE ?_
     clear hE a; intro a w h
     refine c_then ?_
     refine c_condP (p := y.k = p.k) h rfl (by simp) (fun ht3 => ?_) (fun ht3 => ?_)
     ·
      as_aux_lemma =>
       refine c_seq (c_region ?_)
       refine wv h (r_move h rfl) rfl ?_
       clear h a w; intro a w h
       refine wv h (r_move h rfl) rfl ?_
       clear h a w; intro a w h
       refine wv h (r_sliceV h rfl K.u_S_pack_item K.sz_pack_item (Views.own 0 rfl) k l.length (Bnd.of rfl rfl) Bnd.no (by omega) (Nat.le_refl _)) rfl ?_
       clear h a w; intro a w h
       refine wv h (r_assign h rfl) rfl ?_
       clear h a w; intro a w h
       refine wnil (c_then ?_)
       refine c_seq ?_
       refine c_seq (c_region ?_)
       refine wv h (r_assign h rfl) rfl ?_
       clear h a w; intro a w h
       refine wnil (c_then ?_)
       refine c_block ?_
       rw [if_pos ht3] at k4
       refine c_loop (X := Nat × List ItV × Nat) (fun z => [(0, v), (1, .func (.func n_pack_sorted_2) #[] #[]), (5, .int .i64 (z.1 : Int)), (6, subV 33 v k l.length), (7, .int .i64 (z.2.2 : Int))]) (fun z => OwnM 33 cellsI v z.2.1 :: F)
         (fun z => 1 ≤ z.2.2 ∧ k + z.2.2 ≤ l.length ∧ z.1 + 1 ≤ k + z.2.2 ∧ z.2.1.length = l.length ∧ z.2.1.drop (k + z.2.2 - 1) = l.drop (k + z.2.2 - 1) ∧ ∀ q, l[k + z.2.2 - 1]? = some q → comp l = z.2.1.take z.1 ++ compL q (l.drop (k + z.2.2))) (fun z => l.length - z.2.2) (k, l, 1) (h.keep [0, 1, 5, 6, 7])
         ⟨Nat.le_refl _, by simp only; omega, Nat.le_refl _, rfl, rfl, fun q hq => by simp only [Nat.add_sub_cancel] at hq; rw [hy] at hq; cases hq; exact k4⟩ ?_
       clear h a w; intro z a w hz h
       obtain ⟨kk, cur, j⟩ := z
       obtain ⟨j1, j2, j3, j4, j5, j6⟩ := hz
       simp only at j1 j2 j3 j4 j5 j6 h
       obtain ⟨q, hq⟩ : ∃ q, l[k + j - 1]? = some q := ⟨_, List.getElem?_eq_getElem (by omega)⟩
       have j7 := j6 q hq
       have hv2 : Views (OwnM 33 cellsI v cur :: F) 33 (subV 33 v k l.length) (l.length - k) ((cur.drop k).flatMap cellsI) := viewDropI (Views.own 0 rfl) j4 (by omega)
       have hcq : (cur.drop k)[j - 1]? = some q := by
         have e : (cur.drop (k + j - 1))[0]? = (l.drop (k + j - 1))[0]? := by rw [j5]
         rw [List.getElem?_drop, List.getElem?_drop, Nat.add_zero, hq] at e
         rw [List.getElem?_drop, show k + (j - 1) = k + j - 1 by omega]; exact e
       as_aux_lemma =>
        refine c_seq ?_
        refine c_seq (c_region ?_)
        refine wv h (r_move h rfl) rfl ?_
        clear h a w; intro a w h
        refine wv h (r_move h rfl) rfl ?_
        clear h a w; intro a w h
        refine wv h (r_lenV h rfl K.u_S_pack_item hv2) rfl ?_
        clear h a w; intro a w h
        refine wv h (r_bin h rfl rfl (B.lss_int)) rfl ?_
        clear h a w; intro a w h
        refine wnil (c_then ?_)
        refine c_condP (p := k + j < l.length) h rfl (by simp; omega) (fun ht4 => ?_) (fun ht4 => ?_)
        ·
         obtain ⟨x, hx⟩ : ∃ x, l[k + j]? = some x := ⟨_, List.getElem?_eq_getElem ht4⟩
         have dx := dropE hx
         have hcx : (cur.drop k)[j]? = some x := by
           have e : (cur.drop (k + j - 1))[1]? = (l.drop (k + j - 1))[1]? := by rw [j5]
           rw [List.getElem?_drop, List.getElem?_drop, show k + j - 1 + 1 = k + j by omega, hx] at e
           rw [List.getElem?_drop]; exact e
         have j8 : cur.drop (k + j) = l.drop (k + j) := by
           have e : (cur.drop (k + j - 1)).drop 1 = (l.drop (k + j - 1)).drop 1 := by rw [j5]
           rwa [List.drop_drop, List.drop_drop, show k + j - 1 + 1 = k + j by omega] at e
         rw [dx, compL] at j7
         refine c_skip ?_
         refine c_then ?_
         refine c_seq ?_
         refine c_block ?_
         refine c_seq (c_draw K.mixed (by kernel_rfl) h ?_)
         clear h a w; intro a hE
         refine qv hE (fun w hw => r_move ⟨hE, hw⟩ rfl) rfl ?_
         clear hE a; intro a hE
         refine qv hE (fun w hw => r_move ⟨hE, hw⟩ rfl) rfl ?_
         clear hE a; intro a hE
         refine qv hE (fun w hw => r_move ⟨hE, hw⟩ rfl) rfl ?_
         clear hE a; intro a hE
         refine qv hE (fun w hw => r_elPv ⟨hE, hw⟩ rfl rfl K.u_S_pack_item K.sz_pack_item hv2 j rfl (by omega)) rfl ?_
         clear hE a; intro a hE
         refine qv hE (fun w hw => r_elM (cells := cellsI) ⟨hE, hw⟩ rfl K.u_pack_item rfl K.sz_pack_item rfl hv2 hcx) rfl ?_
         clear hE a; intro a hE
         refine qv hE (fun w hw => r_move ⟨hE, hw⟩ rfl) rfl ?_
         clear hE a; intro a hE
         refine qv hE (fun w hw => r_move ⟨hE, hw⟩ rfl) rfl ?_
         clear hE a; intro a hE
         refine qv hE (fun w hw => r_bin ⟨hE, hw⟩ rfl rfl (B.sub_i64 (by omega) (by omega))) rfl ?_
         clear hE a; intro a hE
         refine qv hE (fun w hw => r_elPv ⟨hE, hw⟩ rfl rfl K.u_S_pack_item K.sz_pack_item hv2 (j - 1) (by omega) (by omega)) rfl ?_
         clear hE a; intro a hE
         refine qv hE (fun w hw => r_elM (cells := cellsI) ⟨hE, hw⟩ rfl K.u_pack_item rfl K.sz_pack_item rfl hv2 hcq) rfl ?_
         clear hE a; intro a hE
         refine q_callV (fs := #[]) (cs := #[]) hE rfl (vs := [itV x, itV q]) rfl K.go_pack_sorted_2 (fun w hw => srt_call2 s w x q _ hw) rfl ?_
         clear hE a; intro a hE
         refine qv hE (fun w hw => r_not ⟨hE, hw⟩ rfl) rfl ?_
         clear hE a; intro a hE
         refine qnil hE ?_
         clear hE a; intro a w h
         refine c_then ?_
         refine c_condP (p := ¬ x.k = q.k) h rfl (by simp) (fun ht5 => ?_) (fun ht5 => ?_)
         ·
          as_aux_lemma =>
           refine c_seq (c_region ?_)
           refine wv h (r_move h rfl) rfl ?_
           clear h a w; intro a w h
           refine wv h (r_move h rfl) rfl ?_
           clear h a w; intro a w h
           refine wv h (r_move h rfl) rfl ?_
           clear h a w; intro a w h
           refine wv h (r_move h rfl) rfl ?_
           clear h a w; intro a w h
           refine wv h (r_elPv h rfl rfl K.u_S_pack_item K.sz_pack_item hv2 j rfl (by omega)) rfl ?_
           clear h a w; intro a w h
           refine wv h (r_elM (cells := cellsI) h rfl K.u_pack_item rfl K.sz_pack_item rfl hv2 hcx) rfl ?_
           clear h a w; intro a w h
           refine wv h (r_elPs h rfl rfl K.u_S_pack_item K.sz_pack_item (Sat.shp h.2 (by omega)) kk rfl (by omega)) rfl ?_
           clear h a w; intro a w h
           refine wl rfl (op_storeR (cells := cellsI) (u := x) h rfl rfl K.sz_pack_item 0 rfl (by omega) ?_)
           clear h a w; intro a w h
           simp only [List.set_cons_zero] at h
           refine wnil (c_then ?_)
           refine c_region ?_
           refine wv h (r_move h rfl) rfl ?_
           clear h a w; intro a w h
           refine wv h (r_bin h rfl rfl (B.add_i64 (by omega) (by omega))) rfl ?_
           clear h a w; intro a w h
           refine wv h (r_assign h rfl) rfl ?_
           clear h a w; intro a w h
           refine wnil ?_
           refine b_normal ?_
           refine c_then ?_
           refine c_region ?_
           refine wv h (r_move h rfl) rfl ?_
           clear h a w; intro a w h
           refine wv h (r_bin h rfl rfl (B.add_i64 (by omega) (by omega))) rfl ?_
           clear h a w; intro a w h
           refine wv h (r_assign h rfl) rfl ?_
           clear h a w; intro a w h
           refine wnil ?_
           rw [if_neg ht5] at j7
           refine ⟨(kk + 1, cur.set kk x, j + 1), h.keep [0, 1, 5, 6, 7], ⟨by simp only; omega, by simp only; omega, by simp only; omega, by simp only [List.length_set]; exact j4, ?_, fun q' hq' => ?_⟩, by simp only; omega⟩
           · simp only [show k + (j + 1) - 1 = k + j by omega]
             rw [List.drop_set_of_lt (by omega)]; exact j8
           · simp only [show k + (j + 1) - 1 = k + j by omega] at hq'
             rw [hx] at hq'; cases hq'
             rw [j7]
             simp only [show k + (j + 1) = k + j + 1 by omega]
             have e : (cur.set kk x).take (kk + 1) = cur.take kk ++ [x] := by
               rw [List.take_add_one, List.take_set_of_le (Nat.le_refl _)]
               simp [show kk < cur.length by omega]
             rw [e]; simp
         ·
          refine c_skip ?_
          refine b_normal ?_
          refine c_then ?_
          refine c_region ?_
          refine wv h (r_move h rfl) rfl ?_
          clear h a w; intro a w h
          refine wv h (r_bin h rfl rfl (B.add_i64 (by omega) (by omega))) rfl ?_
          clear h a w; intro a w h
          refine wv h (r_assign h rfl) rfl ?_
          clear h a w; intro a w h
          refine wnil ?_
          rw [if_pos (by simpa using ht5)] at j7
          refine ⟨(kk, cur, j + 1), h.keep [0, 1, 5, 6, 7], ⟨by simp only; omega, by simp only; omega, by simp only; omega, j4, ?_, fun q' hq' => ?_⟩, by simp only; omega⟩
          · simp only [show k + (j + 1) - 1 = k + j by omega]; exact j8
          · simp only [show k + (j + 1) - 1 = k + j by omega] at hq'
            rw [hx] at hq'; cases hq'
            exact j7
        ·
         have hjl : k + j = l.length := by omega
         rw [hjl, List.drop_length] at j7
         have hfin : comp l = cur.take kk := by rw [j7]; simp [compL]
         refine c_exit ?_
         refine e_then ?_
         refine e_then ?_
         refine e_here ?_
         refine c_then ?_
         refine c_seq (c_region ?_)
         refine wv h (r_move h rfl) rfl ?_
         clear h a w; intro a w h
         refine wv h (r_move h rfl) rfl ?_
         clear h a w; intro a w h
         refine wv h (r_sliceV h rfl K.u_S_pack_item K.sz_pack_item (Views.own 0 rfl) kk cur.length (Bnd.of rfl rfl) Bnd.no (by omega) (Nat.le_refl _)) rfl ?_
         clear h a w; intro a w h
         refine wl rfl (op_clear h rfl K.u_S_pack_item K.z_pack_item rfl (by intro u hu; simp [Value.cells] at hu; rcases hu with rfl | rfl <;> rfl) 0 rfl (by omega) ?_)
         clear h a w; intro zs a w hzs h
         refine wnil (c_then ?_)
         refine c_seq (c_region ?_)
         refine wv h (r_move h rfl) rfl ?_
         clear h a w; intro a w h
         refine wv h (r_move h rfl) rfl ?_
         clear h a w; intro a w h
         refine wl rfl (op_sliceOwn h rfl K.u_S_pack_item K.sz_pack_item 0 rfl 0 kk Bnd.no (Bnd.of rfl rfl) (Nat.zero_le _) (by omega) rfl rfl ?_)
         clear h a w; intro a w h
         refine wv h (r_assign h rfl) rfl ?_
         clear h a w; intro a w h
         refine wnil (c_then ?_)
         refine c_ret ?_
         have e : (((cur.flatMap cellsI).take (kk * 33) ++ zs).drop (0 * 33)).take ((kk - 0) * 33) = (comp l).flatMap cellsI := by
           rw [Nat.zero_mul, List.drop_zero, Nat.sub_zero, List.take_left' (by rw [List.length_take, flatLenI]; omega), flatMap_take, hfin]
         have hl2 : kk - 0 = (comp l).length := by rw [hfin, List.length_take]; omega
         refine ret1 h rfl rfl ⟨_, rfl, ?_, trivial⟩
         have q := h.2
         simp only [List.set_cons_zero] at q
         rw [OwnM_eq (l := comp l) e hl2] at q
         exact q
     ·
      refine c_skip ?_
      refine b_normal ?_
      refine c_then ?_
      refine c_region ?_
      refine wv h (r_move h rfl) rfl ?_
      clear h a w; intro a w h
      refine wv h (r_bin h rfl rfl (B.add_i64 (by omega) (by omega))) rfl ?_
      clear h a w; intro a w h
      refine wv h (r_assign h rfl) rfl ?_
      clear h a w; intro a w h
      refine wnil ?_
      rw [if_neg ht3] at k4
      exact ⟨k + 1, h.keep [0, 1, 5], ⟨by omega, by omega, fun p' hp' => by rw [Nat.add_sub_cancel, hy] at hp'; cases hp'; rw [k4, takeE hy]; simp⟩, by omega⟩
    ·
     refine c_exit ?_
     refine e_then ?_
     refine e_then ?_
     refine e_here ?_
     refine c_then ?_
     refine c_seq (c_region ?_)
     refine wv h (r_move h rfl) rfl ?_
     clear h a w; intro a w h
     refine wv h (r_assign h rfl) rfl ?_
     clear h a w; intro a w h
     refine wnil (c_then ?_)
     refine c_ret ?_
     have e : comp l = l := by
       rw [k4, List.take_of_length_le (by omega), List.drop_eq_nil_of_le (by omega)]; simp [compL]
     exact ret1 h rfl rfl ⟨v, rfl, by rw [e]; exact h.2, trivial⟩
end Go.Proofs.K
